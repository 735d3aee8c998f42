/- Texts of the law GaugeKeeps, laid together by a program of this session; what is not reached is cut. In it: words that the kit's print.sh printed, contracts of Go functions printed over the kit's printer, our own laws. Not trusted: Lean checks them. -/
import Derived.Test.YtjemaonejkepcaaDoorZKGaugeKeeps5
namespace Go.Proofs.YtjemaonejkepcaaDoor.G
open Go.Proofs.YtjemaonejkepcaaDoor.B
open Go.RowKit Go.Proofs.YtjemaonejkepcaaDoorW.PrintWords Go.Proofs.YtjemaonejkepcaaDoorW.PrintLast Go.Proofs.YtjemaonejkepcaaDoorW.PrintMore
attribute [local go_sem] max2_int min2_int max_two min_two max_three min_three max_four min_four   -- for this text's walks alone
set_option linter.unusedVariables false
set_option linter.unusedSimpArgs false
set_option maxHeartbeats 8000000 in
set_option maxRecDepth 100000 in
theorem metrolablaw47_GaugeKeeps.calls (k : Nat) (A0 : Option Addr) (c0 : Nat) (l0 : List (S27)) (a1_0 : Int) (a1_1 : Int) (a2_0 : Int) (a2_1 : Int) (a2_2 : Int) (r : Bool) (w : World) (hr0 : Kd.C k27 w A0 l0.length l0) (hc0 : l0.length ≤ c0) (h : metrolablaw47_GaugeKeeps.f k l0 a1_0 a1_1 a2_0 a2_1 a2_2 = some r) (hS : SignsAt w) :
    Calls Tryd.prog 7 #[.slice A0 l0.length c0, .agg #[.int .i64 a1_0, .int .i64 a1_1], .agg #[.int .i64 a2_0, .int .i64 a2_1, .int .i64 a2_2]] w fun e w' => e = .returned (.bool r) ∧ Below w.heap.size w w' := by
  have HS := Aside0.mk hS
  clear hS
  have hu44 := Tryd.underlying44
  have hu68 := Tryd.underlying68
  have hu56 := Tryd.underlying56
  have hu27 := Tryd.underlying27
  have HR0 := Aside0.mk hr0
  have HC0 := Aside0.mk hc0
  clear hr0 hc0
  have HB := Aside0.mk (Below.refl w.heap.size w)
  have H : ((metrolablaw47_few.f l0).bind fun t246 => (if t246 = true then ((metrolabref44_Ring.f a2_0 a2_1 a2_2).bind fun t247 => (metrolablaw47_GaugeKeeps.j0 k l0 (t247 != 0) a1_0 a1_1 a2_0 a2_1 a2_2)) else (metrolablaw47_GaugeKeeps.j0 k l0 true a1_0 a1_1 a2_0 a2_1 a2_2))) = some r := h
  clear h
  have HC4 := Aside0.mk H
  clear H
  go_enter Tryd.func7, Tryd.ntmps7
  go_upto_region 1 with (first | ((with_reducible refine gate_dst (N := 4) rfl ?_); (try (refine gate_guard (by rfl) ?_; dsimp only)); refine box_event ?hg (N := 4) ?hd (cs := #[.int .i64 a1_0, .int .i64 a1_1]) (t := 44) ?hr ?_; (case hd => rfl); (case hg => rfl); (case hr => first | (go_simp; done) | (go_simp; rfl)); intro gb244 hg w5 hbox hb; have n0_ := Aside0.mk (below_step (by repeat (first | (with_reducible first | exact HB.out | apply below_alloc | apply pw_below_drewN | apply below_drew1) | exact HB.out)) hb); have n1_ := Aside0.mk (hbox); have n2_ := Aside0.mk ((by rw [hg]; exact (below_size (by repeat (first | (with_reducible first | exact HB.out | apply below_alloc | apply pw_below_drewN | apply below_drew1) | exact HB.out))) : w.heap.size ≤ gb244)); have n3_ := Aside0.mk ((by rw [hg]; exact (below_size (by repeat (first | (with_reducible first | exact HB.out | apply below_alloc | apply pw_below_drewN | apply below_drew1) | exact HB.out))) : w.heap.size ≤ gb244)); clear HB; have HB := n0_; have BK244 := n1_; have GW244 := n2_; have GE244 := n3_; clear n0_ n1_ n2_ n3_; clear hb hbox hg) | ((with_reducible refine gate_dst (N := 5) rfl ?_); (try (refine gate_guard (by rfl) ?_; dsimp only)); refine box_event ?hg (N := 5) ?hd (cs := #[.int .i64 a2_0, .int .i64 a2_1, .int .i64 a2_2]) (t := 68) ?hr ?_; (case hd => rfl); (case hg => rfl); (case hr => first | (go_simp; done) | (go_simp; rfl)); intro gb245 hg w6 hbox hb; have n0_ := Aside0.mk (blk_below (g := gb244) (o := .cells #[.int .i64 a1_0, .int .i64 a1_1] 44 (0, 0)) (by (with_reducible repeat (first | refine blk_drewN ?_ _ | refine blk_drew ?_ | refine blk_alloc ?_ _)); exact BK244.out) hb); have n1_ := Aside0.mk (below_step (by repeat (first | (with_reducible first | exact HB.out | apply below_alloc | apply pw_below_drewN | apply below_drew1 | refine below_set ?_ GE244.out) | exact HB.out)) hb); have n2_ := Aside0.mk (hbox); have n3_ := Aside0.mk ((by rw [hg]; exact (below_size (by repeat (first | (with_reducible first | exact HB.out | apply below_alloc | apply pw_below_drewN | apply below_drew1 | refine below_set ?_ GE244.out) | exact HB.out))) : w.heap.size ≤ gb245)); have n4_ := Aside0.mk ((by rw [hg]; exact (below_size (by repeat (first | (with_reducible first | exact HB.out | apply below_alloc | apply pw_below_drewN | apply below_drew1 | refine below_set ?_ GE244.out) | exact HB.out))) : w.heap.size ≤ gb245)); have n5_ := Aside0.mk ((by rw [hg]; exact Nat.ne_of_lt (blk_lt (g := gb244) (o := .cells #[.int .i64 a1_0, .int .i64 a1_1] 44 (0, 0)) (by (with_reducible repeat (first | refine blk_drewN ?_ _ | refine blk_drew ?_ | refine blk_alloc ?_ _)); exact BK244.out)) : gb244 ≠ gb245)); have n6_ := Aside0.mk ((by rw [hg]; exact Nat.ne_of_gt (blk_lt (g := gb244) (o := .cells #[.int .i64 a1_0, .int .i64 a1_1] 44 (0, 0)) (by (with_reducible repeat (first | refine blk_drewN ?_ _ | refine blk_drew ?_ | refine blk_alloc ?_ _)); exact BK244.out)) : gb245 ≠ gb244)); clear BK244; clear HB; have BK244 := n0_; have HB := n1_; have BK245 := n2_; have GW245 := n3_; have GE245 := n4_; have NB244_245 := n5_; have NB245_244 := n6_; clear n0_ n1_ n2_ n3_ n4_ n5_ n6_; clear hb hbox hg))
  (try simp only [Act.put, List.setIfInBounds_toArray, List.set_cons_zero, List.set_cons_succ])
  go_cut [27] (fun v27 wc => ∃ (kq : Nat) (x27_3 : Bool), v27 = .bool x27_3 ∧ Aside0 (metrolablaw47_GaugeKeeps.j0 kq l0 x27_3 a1_0 a1_1 a2_0 a2_1 a2_2 = some r) ∧ Aside0 (kq ≤ k) ∧ Aside0 (wc.heap[gb244]? = some (.cells #[.int .i64 a1_0, .int .i64 a1_1] 44 (0, 0))) ∧ Aside0 (wc.heap[gb245]? = some (.cells #[.int .i64 a2_0, .int .i64 a2_1, .int .i64 a2_2] 68 (0, 0))) ∧ Aside0 (Below w.heap.size w wc))
  case first =>
    have H := HC4.out
    clear HC4
    replace H := Option.bind_eq_some_iff.mp H
    obtain ⟨t246, A70, H⟩ := H
    replace H : (if t246 = true then ((metrolabref44_Ring.f a2_0 a2_1 a2_2).bind fun t247 => (metrolablaw47_GaugeKeeps.j0 k l0 (t247 != 0) a1_0 a1_1 a2_0 a2_1 a2_2)) else (metrolablaw47_GaugeKeeps.j0 k l0 true a1_0 a1_1 a2_0 a2_1 a2_2)) = some r := H
    have A7 := Aside0.mk A70
    clear A70
    by_cases c8 : t246 = true
    · subst c8
      have H1 : ((metrolabref44_Ring.f a2_0 a2_1 a2_2).bind fun t247 => (metrolablaw47_GaugeKeeps.j0 k l0 (t247 != 0) a1_0 a1_1 a2_0 a2_1 a2_2)) = some r := by rw [if_pos rfl] at H; exact H
      clear H
      have H := H1
      clear H1
      replace H := Option.bind_eq_some_iff.mp H
      obtain ⟨t247, A90, H⟩ := H
      replace H : (metrolablaw47_GaugeKeeps.j0 k l0 (t247 != 0) a1_0 a1_1 a2_0 a2_1 a2_2) = some r := H
      have A9 := Aside0.mk A90
      clear A90
      have H' := Aside0.mk H
      clear H
      go_wp2_with (first | ((with_reducible refine gate_callee (f := 29) rfl ?_); refine goesL_ (some 21) rfl rfl Tryd.func29 (by kernel_rfl) rfl #[.slice A0 l0.length c0] rfl (by (try simp only [List.map_toArray, List.map_cons, List.map_nil]); first | done | rfl | (simp only [List.length_drop, List.length_take]; rfl)) ?_; (with_reducible refine (metrolablaw47_few.calls _ _ l0 true _ ?side1 ?side2 A7.out).mono ?_); (case side1 => repeat (first | exact (Kd.C_below HR0.out HB.out) | (with_reducible refine Kd.C_alloc ?_ _) | (with_reducible refine Kd.C_drewN ?_ _) | (with_reducible refine Kd.C_drew ?_))); (case side2 => exact HC0.out); rintro e w' ⟨rfl, ⟨nd, rfl⟩⟩; refine ⟨_, rfl, ?_⟩; have hnb10 := NB245_244.out; have hnc10 := NB244_245.out; have hcz11_0 : w6.cell? ⟨gb245, 0, none⟩ = some (.int .i64 a2_0) := (blk_cell BK245.out 0).trans rfl; have hcz11_1 : w6.cell? ⟨gb245, 1, none⟩ = some (.int .i64 a2_1) := (blk_cell BK245.out 1).trans rfl; have hcz11_2 : w6.cell? ⟨gb245, 2, none⟩ = some (.int .i64 a2_2) := (blk_cell BK245.out 2).trans rfl; have hfz11_0 := blk_frozen BK245.out 0; have hfz11_1 := blk_frozen BK245.out 1; have hfz11_2 := blk_frozen BK245.out 2) | (go_at_call 42; (with_reducible refine (metrolabref44_Ring.calls a2_0 a2_1 a2_2 t247 _ A9.out).mono ?_); rintro e w12 ⟨rfl, hb⟩; have n0_ := Aside0.mk (blk_below (g := gb244) (o := .cells #[.int .i64 a1_0, .int .i64 a1_1] 44 (0, 0)) (by (with_reducible repeat (first | refine blk_drewN ?_ _ | refine blk_drew ?_ | refine blk_alloc ?_ _)); exact BK244.out) hb); have n1_ := Aside0.mk (blk_below (g := gb245) (o := .cells #[.int .i64 a2_0, .int .i64 a2_1, .int .i64 a2_2] 68 (0, 0)) (by (with_reducible repeat (first | refine blk_drewN ?_ _ | refine blk_drew ?_ | refine blk_alloc ?_ _)); exact BK245.out) hb); have n2_ := Aside0.mk (below_step (by repeat (first | (with_reducible first | exact HB.out | apply below_alloc | apply pw_below_drewN | apply below_drew1 | refine below_set ?_ GE244.out | refine below_set ?_ GE245.out) | exact HB.out)) hb); clear BK244; clear BK245; clear HB; have BK244 := n0_; have BK245 := n1_; have HB := n2_; clear n0_ n1_ n2_; (try clear hb); (try clear hb2); (try clear hk); (try clear hi)))
      go_meet
      case rel => exact ⟨_, ((t247 != 0)), (by first | rfl | (simp; done) | (simp [*]; done)), H', ⟨by first | omega | exact Nat.le_refl _⟩, ⟨by (with_reducible repeat (first | refine blk_drewN ?_ _ | refine blk_drew ?_ | refine blk_alloc ?_ _)); exact BK244.out⟩, ⟨by (with_reducible repeat (first | refine blk_drewN ?_ _ | refine blk_drew ?_ | refine blk_alloc ?_ _)); exact BK245.out⟩, ⟨by repeat (first | (with_reducible first | exact HB.out | apply below_alloc | apply pw_below_drewN | apply below_drew1 | refine below_set ?_ GE244.out | refine below_set ?_ GE245.out) | exact HB.out)⟩⟩
    · replace c8 := Bool.eq_false_iff.mpr c8
      subst c8
      have H1 : (metrolablaw47_GaugeKeeps.j0 k l0 true a1_0 a1_1 a2_0 a2_1 a2_2) = some r := by rw [if_neg (show ¬ (false = true) by decide)] at H; exact H
      clear H
      have H := H1
      clear H1
      have H' := Aside0.mk H
      clear H
      go_wp2_with (first | ((with_reducible refine gate_callee (f := 29) rfl ?_); refine goesL_ (some 21) rfl rfl Tryd.func29 (by kernel_rfl) rfl #[.slice A0 l0.length c0] rfl (by (try simp only [List.map_toArray, List.map_cons, List.map_nil]); first | done | rfl | (simp only [List.length_drop, List.length_take]; rfl)) ?_; (with_reducible refine (metrolablaw47_few.calls _ _ l0 false _ ?side1 ?side2 A7.out).mono ?_); (case side1 => repeat (first | exact (Kd.C_below HR0.out HB.out) | (with_reducible refine Kd.C_alloc ?_ _) | (with_reducible refine Kd.C_drewN ?_ _) | (with_reducible refine Kd.C_drew ?_))); (case side2 => exact HC0.out); rintro e w' ⟨rfl, ⟨nd, rfl⟩⟩; refine ⟨_, rfl, ?_⟩))
      go_meet
      case rel => exact ⟨_, (true), (by first | rfl | (simp; done) | (simp [*]; done)), H', ⟨by first | omega | exact Nat.le_refl _⟩, ⟨by (with_reducible repeat (first | refine blk_drewN ?_ _ | refine blk_drew ?_ | refine blk_alloc ?_ _)); exact BK244.out⟩, ⟨by (with_reducible repeat (first | refine blk_drewN ?_ _ | refine blk_drew ?_ | refine blk_alloc ?_ _)); exact BK245.out⟩, ⟨by repeat (first | (with_reducible first | exact HB.out | apply below_alloc | apply pw_below_drewN | apply below_drew1 | refine below_set ?_ GE244.out | refine below_set ?_ GE245.out) | exact HB.out)⟩⟩
  case rest =>
    clear HC4
    try clear c1
    try clear c2
    try clear p2
    try clear c7
    try clear c8
    try clear c10
    try clear hcz11_0
    try clear hcz11_1
    try clear hcz11_2
    try clear hfz11_0
    try clear hfz11_1
    try clear hfz11_2
    obtain ⟨kq, x27_3, rfl, HA, HJ3, BK244, BK245, HB⟩ := hcut
    cases kq with
    | zero => exact absurd HA.out (by simp [metrolablaw47_GaugeKeeps.j0])
    | succ kj3 =>
      have H := HA.out
      clear HA
      simp only [metrolablaw47_GaugeKeeps.j0] at H
      by_cases c13 : x27_3 = true
      · subst c13
        have H1 : ((metrolablaw47_awake.f kj3).bind fun t248 => (some t248)) = some r := by rw [if_pos rfl] at H; exact H
        clear H
        have H := H1
        clear H1
        replace H := Option.bind_eq_some_iff.mp H
        obtain ⟨t248, A140, H⟩ := H
        replace H : (some t248) = some r := H
        have A14 := Aside0.mk A140
        clear A140
        obtain rfl := Option.some.inj H
        go_wp2_with (first | ((with_reducible refine gate_callee (f := 30) rfl ?_); refine goesL_ (some 28) rfl rfl Tryd.func30 (by kernel_rfl) rfl #[] rfl (by (try simp only [List.map_toArray, List.map_cons, List.map_nil]); first | done | rfl | (simp only [List.length_drop, List.length_take]; rfl)) ?_; (with_reducible refine (metrolablaw47_awake.calls kj3  t248 _ A14.out (by exact sig_below HS.out (by repeat (first | (with_reducible first | exact HB.out | apply below_alloc | apply pw_below_drewN | apply below_drew1 | refine below_set ?_ GE244.out | refine below_set ?_ GE245.out) | exact HB.out)))).mono ?_); rintro e w15 ⟨rfl, hb⟩; refine ⟨_, rfl, ?_⟩; have n0_ := Aside0.mk (blk_below (g := gb244) (o := .cells #[.int .i64 a1_0, .int .i64 a1_1] 44 (0, 0)) (by (with_reducible repeat (first | refine blk_drewN ?_ _ | refine blk_drew ?_ | refine blk_alloc ?_ _)); exact BK244.out) hb); have n1_ := Aside0.mk (blk_below (g := gb245) (o := .cells #[.int .i64 a2_0, .int .i64 a2_1, .int .i64 a2_2] 68 (0, 0)) (by (with_reducible repeat (first | refine blk_drewN ?_ _ | refine blk_drew ?_ | refine blk_alloc ?_ _)); exact BK245.out) hb); have n2_ := Aside0.mk (below_step (by repeat (first | (with_reducible first | exact HB.out | apply below_alloc | apply pw_below_drewN | apply below_drew1 | refine below_set ?_ GE244.out | refine below_set ?_ GE245.out) | exact HB.out)) hb); clear BK244; clear BK245; clear HB; have BK244 := n0_; have BK245 := n1_; have HB := n2_; clear n0_ n1_ n2_; (try clear hb); (try clear hb2); (try clear hk); (try clear hi)))
        go_ret
        exact ⟨by first | rfl | (simp [errW_none, errW_some] <;> rfl) | (simp [*, errW_none, errW_some] <;> rfl), by repeat (first | (with_reducible first | exact HB.out | apply below_alloc | apply pw_below_drewN | apply below_drew1 | refine below_set ?_ GE244.out | refine below_set ?_ GE245.out) | exact HB.out)⟩
      · replace c13 := Bool.eq_false_iff.mpr c13
        subst c13
        have H1 : ((gauge_Design.f kj3 l0 a1_0 a1_1).bind fun bt249 => (if bt249.2 = 0 then ((some (([false, true] : List Bool) : List Bool)).bind fun y254 => (metrolablaw47_GaugeKeeps.l0 kj3 l0 bt249.1 y254 (y254.length : Int) 0 a2_0 a2_1 a2_2)) else ((metrolablaw47_awake.f kj3).bind fun t253 => (some t253)))) = some r := by rw [if_neg (show ¬ (false = true) by decide)] at H; exact H
        clear H
        have H := H1
        clear H1
        replace H := Option.bind_eq_some_iff.mp H
        obtain ⟨⟨t249, t252⟩, A160, H⟩ := H
        replace H : (if t252 = 0 then ((some (([false, true] : List Bool) : List Bool)).bind fun y254 => (metrolablaw47_GaugeKeeps.l0 kj3 l0 t249 y254 (y254.length : Int) 0 a2_0 a2_1 a2_2)) else ((metrolablaw47_awake.f kj3).bind fun t253 => (some t253))) = some r := H
        have A16 := Aside0.mk A160
        clear A160
        by_cases c17 : t252 = 0
        · rw [if_pos c17] at H
          have c17b0 : (t252 == 0) = true := beq_iff_eq.mpr c17
          have c17b1 : (t252 != 0) = false := bne_eq_false_iff_eq.mpr c17
          clear c17
          obtain ⟨y254, hy254⟩ : ∃ y_ : List Bool, y_ = (([false, true] : List Bool)) := ⟨_, rfl⟩
          replace H : (metrolablaw47_GaugeKeeps.l0 kj3 l0 t249 y254 (y254.length : Int) 0 a2_0 a2_1 a2_2) = some r := by first | (rw [hy254]; with_reducible exact H) | (have H2_ := (Option.bind_some _ _).symm.trans H; rw [hy254]; with_reducible exact H2_) | (have H2_ := (Option.bind_some _ _).symm.trans H; with_reducible exact H2_) | with_reducible exact H | (rw [hy254]; exact H) | exact H
          have Ny254 := Aside0.mk hy254
          clear hy254
          have H' := Aside0.mk H
          clear H
          have hnb18 := NB244_245.out
          have hnc18 := NB245_244.out
          have hcz19_0 : wc.cell? ⟨gb244, 0, none⟩ = some (.int .i64 a1_0) := (blk_cell BK244.out 0).trans rfl
          have hcz19_1 : wc.cell? ⟨gb244, 1, none⟩ = some (.int .i64 a1_1) := (blk_cell BK244.out 1).trans rfl
          have hfz19_0 := blk_frozen BK244.out 0
          have hfz19_1 := blk_frozen BK244.out 1
          go_wp2_with (first | ((with_reducible refine gate_callee (f := 31) rfl ?_); refine goesL_ (some 32) rfl rfl Tryd.func31 (by kernel_rfl) rfl #[.slice A0 l0.length c0, .agg #[.int .i64 a1_0, .int .i64 a1_1]] rfl (by (try simp only [List.map_toArray, List.map_cons, List.map_nil]); first | done | rfl | (simp only [List.length_drop, List.length_take]; rfl)) ?_; (with_reducible refine (gauge_Design.calls kj3 _ _ l0 a1_0 a1_1 t249 t252 _ ?side1 ?side2 A16.out (by exact sig_below HS.out (by repeat (first | (with_reducible first | exact HB.out | apply below_alloc | apply pw_below_drewN | apply below_drew1 | refine below_set ?_ GE244.out | refine below_set ?_ GE245.out) | exact HB.out)))).mono ?_); (case side1 => repeat (first | exact (Kd.C_below HR0.out HB.out) | (with_reducible refine Kd.C_alloc ?_ _) | (with_reducible refine Kd.C_drewN ?_ _) | (with_reducible refine Kd.C_drew ?_))); (case side2 => exact HC0.out); rintro e w20 ⟨v250, rfl, ho0, hb⟩; refine ⟨_, rfl, ?_⟩; have n0_ := Aside0.mk (Kd.R_lower ho0 (below_size (by repeat (first | (with_reducible first | exact HB.out | apply below_alloc | apply pw_below_drewN | apply below_drew1 | refine below_set ?_ GE244.out | refine below_set ?_ GE245.out) | exact HB.out)))); have n1_ := Aside0.mk (blk_below (g := gb244) (o := .cells #[.int .i64 a1_0, .int .i64 a1_1] 44 (0, 0)) (by (with_reducible repeat (first | refine blk_drewN ?_ _ | refine blk_drew ?_ | refine blk_alloc ?_ _)); exact BK244.out) hb); have n2_ := Aside0.mk (blk_below (g := gb245) (o := .cells #[.int .i64 a2_0, .int .i64 a2_1, .int .i64 a2_2] 68 (0, 0)) (by (with_reducible repeat (first | refine blk_drewN ?_ _ | refine blk_drew ?_ | refine blk_alloc ?_ _)); exact BK245.out) hb); have n3_ := Aside0.mk (below_step (by repeat (first | (with_reducible first | exact HB.out | apply below_alloc | apply pw_below_drewN | apply below_drew1 | refine below_set ?_ GE244.out | refine below_set ?_ GE245.out) | exact HB.out)) hb); clear BK244; clear BK245; clear HB; have HO251 := n0_; have BK244 := n1_; have BK245 := n2_; have HB := n3_; clear n0_ n1_ n2_ n3_; (try clear hb); (try clear hb2); (try clear hk); (try clear hi); (try clear ho0)) | ((with_reducible refine gate_dst (N := 38) rfl ?_); (try (refine gate_guard (by rfl) ?_; dsimp only)); refine Kd.R_lit Kd.bool _ 4 ?hg (N := 38) ?hd (xs := ([false, true] : List Bool)) (inner := [.bool false, .bool true]) (ok := fun _ => True) (okp := fun _ => True) ?hr ?hp (fun _ hk => hk) trivial (Below.refl _ _) (Nat.le_refl _) (by simp) ?_; (case hd => rfl); (case hg => rfl); (case hr => first | (go_simp; done) | (go_simp; rfl)); (case hp => exact (Reps.one (show Kd.M Kd.bool _ _ _ false [.bool false] from rfl) (Reps.one (show Kd.M Kd.bool _ _ _ true [.bool true] from rfl) (Reps.none _ _)))); intro v255 w21 ho22 hb hg_ hnew_; clear hg_ hnew_; (first | rw [← Ny254.out] at ho22 | (simp only [Int.reduceToNat] at ho22; rw [← Ny254.out] at ho22)); have n0_ := Aside0.mk (Kd.R_below (by (with_reducible repeat (first | apply Kd.R_alloc | apply Kd.R_drewN | apply Kd.R_drew)); exact HO251.out) hb); have n1_ := Aside0.mk (Kd.R_lower ho22 (below_size (by repeat (first | (with_reducible first | exact HB.out | apply below_alloc | apply pw_below_drewN | apply below_drew1 | refine below_set ?_ GE244.out | refine below_set ?_ GE245.out) | exact HB.out)))); have n2_ := Aside0.mk (blk_below (g := gb244) (o := .cells #[.int .i64 a1_0, .int .i64 a1_1] 44 (0, 0)) (by (with_reducible repeat (first | refine blk_drewN ?_ _ | refine blk_drew ?_ | refine blk_alloc ?_ _)); exact BK244.out) hb); have n3_ := Aside0.mk (blk_below (g := gb245) (o := .cells #[.int .i64 a2_0, .int .i64 a2_1, .int .i64 a2_2] 68 (0, 0)) (by (with_reducible repeat (first | refine blk_drewN ?_ _ | refine blk_drew ?_ | refine blk_alloc ?_ _)); exact BK245.out) hb); have n4_ := Aside0.mk (below_step (by repeat (first | (with_reducible first | exact HB.out | apply below_alloc | apply pw_below_drewN | apply below_drew1 | refine below_set ?_ GE244.out | refine below_set ?_ GE245.out) | exact HB.out)) hb); clear HO251; clear BK244; clear BK245; clear HB; have HO251 := n0_; have HO256 := n1_; have BK244 := n2_; have BK245 := n3_; have HB := n4_; clear n0_ n1_ n2_ n3_ n4_; clear hb ho22; obtain ⟨Ao23, co23, eo23⟩ := Kd.R_slice HO256.out; subst eo23))
          go_loopg [40] kj3 (fun kq v40 w' => ∃ (x40_2 : Int), v40 = .int .i64 x40_2 ∧ Aside0 (metrolablaw47_GaugeKeeps.l0 kq l0 t249 y254 (y254.length : Int) x40_2 a2_0 a2_1 a2_2 = some r) ∧ Aside0 (kq ≤ kj3) ∧ Aside0 (Kd.R k104 104 w' w.heap.size (fun _ => True) v250 t249) ∧ Aside0 (Kd.R Kd.bool 4 w' w.heap.size (fun _ => True) (.slice Ao23 y254.length co23) y254) ∧ Aside0 (w'.heap[gb244]? = some (.cells #[.int .i64 a1_0, .int .i64 a1_1] 44 (0, 0))) ∧ Aside0 (w'.heap[gb245]? = some (.cells #[.int .i64 a2_0, .int .i64 a2_1, .int .i64 a2_2] 68 (0, 0))) ∧ Aside0 (Below w.heap.size w w'))
          case atStart => exact ⟨(0), (by first | rfl | (simp; done) | (simp [*]; done)), H', ⟨Nat.le_refl _⟩, ⟨by (with_reducible repeat (first | apply Kd.R_alloc | apply Kd.R_drewN | apply Kd.R_drew)); exact HO251.out⟩, ⟨by (with_reducible repeat (first | apply Kd.R_alloc | apply Kd.R_drewN | apply Kd.R_drew)); exact HO256.out⟩, ⟨by (with_reducible repeat (first | refine blk_drewN ?_ _ | refine blk_drew ?_ | refine blk_alloc ?_ _)); exact BK244.out⟩, ⟨by (with_reducible repeat (first | refine blk_drewN ?_ _ | refine blk_drew ?_ | refine blk_alloc ?_ _)); exact BK245.out⟩, ⟨by repeat (first | (with_reducible first | exact HB.out | apply below_alloc | apply pw_below_drewN | apply below_drew1 | refine below_set ?_ GE244.out | refine below_set ?_ GE245.out) | exact HB.out)⟩⟩
          case round =>
            clear H'
            try clear c1
            try clear c2
            try clear p2
            try clear c3
            try clear c7
            try clear c8
            try clear c10
            try clear c13
            try clear c17
            try clear c17b0
            try clear c17b1
            try clear c18
            try clear hcz11_0
            try clear hcz11_1
            try clear hcz11_2
            try clear hcz19_0
            try clear hcz19_1
            try clear hfz11_0
            try clear hfz11_1
            try clear hfz11_2
            try clear hfz19_0
            try clear hfz19_1
            try clear p2
            obtain ⟨x40_2, rfl, HA, HK2, HO_7, HO_38, BK244, BK245, HB⟩ := hrel
            cases gk with
            | zero => exact absurd HA.out (by simp [metrolablaw47_GaugeKeeps.l0])
            | succ k2 =>
              have H := HA.out
              clear HA
              simp only [metrolablaw47_GaugeKeeps.l0] at H
              by_cases c24 : x40_2 < (y254.length : Int)
              · rw [if_pos c24] at H
                have c24b0 : decide (x40_2 < (y254.length : Int)) = true := decide_eq_true c24
                clear c24
                by_cases c25 : 0 ≤ x40_2
                · rw [if_pos c25] at H
                  have c25b0 : decide (0 ≤ x40_2) = true := decide_eq_true c25
                  clear c25
                  by_cases c26 : x40_2 < (y254.length : Int)
                  · rw [if_pos c26] at H
                    have c26b0 : decide (x40_2 < (y254.length : Int)) = true := decide_eq_true c26
                    clear c26
                    replace H := Option.bind_eq_some_iff.mp H
                    obtain ⟨⟨t259, t260⟩, A270, H⟩ := H
                    replace H : (if t260 = 0 then (metrolablaw47_GaugeKeeps.j2 k2 l0 t249 t259 y254 (y254.length : Int) x40_2 ((t259.length : Int) != (l0.length : Int)) a2_0 a2_1 a2_2) else (metrolablaw47_GaugeKeeps.j2 k2 l0 t249 t259 y254 (y254.length : Int) x40_2 true a2_0 a2_1 a2_2)) = some r := H
                    have A27 := Aside0.mk A270
                    clear A270
                    have HC28 := Aside0.mk H
                    clear H
                    have p258 : 0 ≤ (x40_2 : Int) := of_decide_eq_true (by first | (with_reducible assumption) | assumption)
                    have q258 : x40_2 < (y254.length : Int) := of_decide_eq_true (by first | (with_reducible assumption) | assumption)
                    obtain ⟨ad258, e258, hx258_0⟩ := Kd.at_bool (Kd.R_reads' HO_38.out).2.2 x40_2 p258 q258
                    cases e258
                    replace p258 := eq_true p258
                    replace q258 := eq_true q258
                    obtain ⟨Ao29, co29, eo29⟩ := Kd.R_slice HO_7.out
                    subst eo29
                    go_upto_region 10 with (first | ((with_reducible refine gate_callee (f := 34) rfl ?_); refine goesL_ (some 47) rfl rfl Tryd.func34 (by kernel_rfl) rfl #[.slice Ao29 t249.length co29, .bool (rdOf false y254 x40_2)] rfl (by (try simp only [List.map_toArray, List.map_cons, List.map_nil]); first | done | rfl | (simp only [List.length_drop, List.length_take]; rfl)) ?_; (with_reducible refine (gauge_Made.calls k2 _ _ t249 (rdOf false y254 x40_2) t259 t260 _ ?side1 ?side2 A27.out (by exact sig_below HS.out (by repeat (first | (with_reducible first | exact HB.out | apply below_alloc | apply pw_below_drewN | apply below_drew1 | refine below_set ?_ GE244.out | refine below_set ?_ GE245.out) | exact HB.out)))).mono ?_); (case side1 => repeat (first | exact (Kd.R_reads' HO_7.out).2.2 | (with_reducible refine Kd.C_alloc ?_ _) | (with_reducible refine Kd.C_drewN ?_ _) | (with_reducible refine Kd.C_drew ?_))); (case side2 => exact (Kd.R_reads' HO_7.out).2.1); rintro e w30 ⟨v261, rfl, ho0, hb⟩; refine ⟨_, rfl, ?_⟩; have n0_ := Aside0.mk (Kd.R_below (by (with_reducible repeat (first | apply Kd.R_alloc | apply Kd.R_drewN | apply Kd.R_drew)); exact HO_7.out) hb); have n1_ := Aside0.mk (Kd.R_below (by (with_reducible repeat (first | apply Kd.R_alloc | apply Kd.R_drewN | apply Kd.R_drew)); exact HO_38.out) hb); have n2_ := Aside0.mk (Kd.R_lower ho0 (below_size (by repeat (first | (with_reducible first | exact HB.out | apply below_alloc | apply pw_below_drewN | apply below_drew1 | refine below_set ?_ GE244.out | refine below_set ?_ GE245.out) | exact HB.out)))); have n3_ := Aside0.mk (blk_below (g := gb244) (o := .cells #[.int .i64 a1_0, .int .i64 a1_1] 44 (0, 0)) (by (with_reducible repeat (first | refine blk_drewN ?_ _ | refine blk_drew ?_ | refine blk_alloc ?_ _)); exact BK244.out) hb); have n4_ := Aside0.mk (blk_below (g := gb245) (o := .cells #[.int .i64 a2_0, .int .i64 a2_1, .int .i64 a2_2] 68 (0, 0)) (by (with_reducible repeat (first | refine blk_drewN ?_ _ | refine blk_drew ?_ | refine blk_alloc ?_ _)); exact BK245.out) hb); have n5_ := Aside0.mk (below_step (by repeat (first | (with_reducible first | exact HB.out | apply below_alloc | apply pw_below_drewN | apply below_drew1 | refine below_set ?_ GE244.out | refine below_set ?_ GE245.out) | exact HB.out)) hb); clear HO_7; clear HO_38; clear BK244; clear BK245; clear HB; have HO_7 := n0_; have HO_38 := n1_; have HO262 := n2_; have BK244 := n3_; have BK245 := n4_; have HB := n5_; clear n0_ n1_ n2_ n3_ n4_ n5_; (try clear hb); (try clear hb2); (try clear hk); (try clear hi); (try clear ho0)))
                    (try simp only [Act.put, List.setIfInBounds_toArray, List.set_cons_zero, List.set_cons_succ])
                    go_cut [58] (fun v58 wc => ∃ (kq : Nat) (x58_27 : Bool), v58 = .bool x58_27 ∧ Aside0 (metrolablaw47_GaugeKeeps.j2 kq l0 t249 t259 y254 (y254.length : Int) x40_2 x58_27 a2_0 a2_1 a2_2 = some r) ∧ Aside0 (kq ≤ k2) ∧ Aside0 (Kd.R k104 104 wc w.heap.size (fun _ => True) (.slice Ao29 t249.length co29) t249) ∧ Aside0 (Kd.R k56 56 wc w.heap.size (fun _ => True) v261 t259) ∧ Aside0 (Kd.R Kd.bool 4 wc w.heap.size (fun _ => True) (.slice (some ad258) y254.length co23) y254) ∧ Aside0 (wc.heap[gb244]? = some (.cells #[.int .i64 a1_0, .int .i64 a1_1] 44 (0, 0))) ∧ Aside0 (wc.heap[gb245]? = some (.cells #[.int .i64 a2_0, .int .i64 a2_1, .int .i64 a2_2] 68 (0, 0))) ∧ Aside0 (Below w.heap.size w wc))
                    case first =>
                      have H := HC28.out
                      clear HC28
                      by_cases c31 : t260 = 0
                      · rw [if_pos c31] at H
                        have c31b0 : (t260 == 0) = true := beq_iff_eq.mpr c31
                        have c31b1 : (t260 != 0) = false := bne_eq_false_iff_eq.mpr c31
                        clear c31
                        (first | rw [c31b0] | (simp only [i64_w, i32_w]; rw [c31b0]) | skip)
                        have H' := Aside0.mk H
                        clear H
                        obtain ⟨Ao32, co32, eo32⟩ := Kd.R_slice HO262.out
                        subst eo32
                        go_wp2
                        go_meet
                        case rel => exact ⟨_, (((t259.length : Int) != (l0.length : Int))), (by first | rfl | (simp; done) | (simp [*]; done)), H', ⟨by have := HJ3.out; have := HK2.out; first | omega | exact Nat.le_refl _⟩, ⟨by (with_reducible repeat (first | apply Kd.R_alloc | apply Kd.R_drewN | apply Kd.R_drew)); exact HO_7.out⟩, ⟨by (with_reducible repeat (first | apply Kd.R_alloc | apply Kd.R_drewN | apply Kd.R_drew)); exact HO262.out⟩, ⟨by (with_reducible repeat (first | apply Kd.R_alloc | apply Kd.R_drewN | apply Kd.R_drew)); exact HO_38.out⟩, ⟨by (with_reducible repeat (first | refine blk_drewN ?_ _ | refine blk_drew ?_ | refine blk_alloc ?_ _)); exact BK244.out⟩, ⟨by (with_reducible repeat (first | refine blk_drewN ?_ _ | refine blk_drew ?_ | refine blk_alloc ?_ _)); exact BK245.out⟩, ⟨by repeat (first | (with_reducible first | exact HB.out | apply below_alloc | apply pw_below_drewN | apply below_drew1 | refine below_set ?_ GE244.out | refine below_set ?_ GE245.out) | exact HB.out)⟩⟩
                      · rw [if_neg c31] at H
                        have c31b0 : (t260 == 0) = false := beq_eq_false_iff_ne.mpr c31
                        have c31b1 : (t260 != 0) = true := bne_iff_ne.mpr c31
                        (first | rw [c31b0] | (simp only [i64_w, i32_w]; rw [c31b0]) | skip)
                        have H' := Aside0.mk H
                        clear H
                        go_wp2
                        go_meet
                        case rel => exact ⟨_, (true), (by first | rfl | (simp; done) | (simp [*]; done)), H', ⟨by have := HJ3.out; have := HK2.out; first | omega | exact Nat.le_refl _⟩, ⟨by (with_reducible repeat (first | apply Kd.R_alloc | apply Kd.R_drewN | apply Kd.R_drew)); exact HO_7.out⟩, ⟨by (with_reducible repeat (first | apply Kd.R_alloc | apply Kd.R_drewN | apply Kd.R_drew)); exact HO262.out⟩, ⟨by (with_reducible repeat (first | apply Kd.R_alloc | apply Kd.R_drewN | apply Kd.R_drew)); exact HO_38.out⟩, ⟨by (with_reducible repeat (first | refine blk_drewN ?_ _ | refine blk_drew ?_ | refine blk_alloc ?_ _)); exact BK244.out⟩, ⟨by (with_reducible repeat (first | refine blk_drewN ?_ _ | refine blk_drew ?_ | refine blk_alloc ?_ _)); exact BK245.out⟩, ⟨by repeat (first | (with_reducible first | exact HB.out | apply below_alloc | apply pw_below_drewN | apply below_drew1 | refine below_set ?_ GE244.out | refine below_set ?_ GE245.out) | exact HB.out)⟩⟩
                    case rest =>
                      clear HC28
                      try clear c1
                      try clear c2
                      try clear p2
                      try clear q2
                      try clear hx2
                      try clear c3
                      try clear c7
                      try clear c8
                      try clear c10
                      try clear c13
                      try clear c17
                      try clear c17b0
                      try clear c17b1
                      try clear c18
                      try clear c24
                      try clear c24b0
                      try clear c25
                      try clear c25b0
                      try clear p25
                      try clear q25
                      try clear hx25
                      try clear c26
                      try clear c26b0
                      try clear c29
                      try clear c30
                      try clear c31
                      try clear c31b0
                      try clear c31b1
                      try clear hcz11_0
                      try clear hcz11_1
                      try clear hcz11_2
                      try clear hcz19_0
                      try clear hcz19_1
                      try clear hfz11_0
                      try clear hfz11_1
                      try clear hfz11_2
                      try clear hfz19_0
                      try clear hfz19_1
                      try clear hx258_0
                      try clear p2
                      try clear p258
                      try clear q258
                      obtain ⟨kq, x58_27, rfl, HA, HJ27, HO_7, HO_11, HO_38, BK244, BK245, HB⟩ := hcut
                      cases kq with
                      | zero => exact absurd HA.out (by simp [metrolablaw47_GaugeKeeps.j2])
                      | succ kj27 =>
                        have H := HA.out
                        clear HA
                        simp only [metrolablaw47_GaugeKeeps.j2] at H
                        by_cases c33 : x58_27 = true
                        · subst c33
                          have H1 : (some false) = some r := by rw [if_pos rfl] at H; exact H
                          clear H
                          have H := H1
                          clear H1
                          obtain rfl := Option.some.inj H
                          go_wp2
                          go_ret
                          exact ⟨by first | rfl | (simp [errW_none, errW_some] <;> rfl) | (simp [*, errW_none, errW_some] <;> rfl), by repeat (first | (with_reducible first | exact HB.out | apply below_alloc | apply pw_below_drewN | apply below_drew1 | refine below_set ?_ GE244.out | refine below_set ?_ GE245.out) | exact HB.out)⟩
                        · replace c33 := Bool.eq_false_iff.mpr c33
                          subst c33
                          have H1 : (metrolablaw47_GaugeKeeps.l1 kj27 l0 t249 y254 (y254.length : Int) x40_2 t259 (t259.length : Int) 0 a2_0 a2_1 a2_2) = some r := by rw [if_neg (show ¬ (false = true) by decide)] at H; exact H
                          clear H
                          have H := H1
                          clear H1
                          have H' := Aside0.mk H
                          clear H
                          obtain ⟨Ao34, co34, eo34⟩ := Kd.R_slice HO_11.out
                          subst eo34
                          go_wp2
                          go_loopg [61] kj27 (fun kq v61 w' => ∃ (x61_4 : Int), v61 = .int .i64 x61_4 ∧ Aside0 (metrolablaw47_GaugeKeeps.l1 kq l0 t249 y254 (y254.length : Int) x40_2 t259 (t259.length : Int) x61_4 a2_0 a2_1 a2_2 = some r) ∧ Aside0 (kq ≤ kj27) ∧ Aside0 (Kd.R k104 104 w' w.heap.size (fun _ => True) (.slice Ao29 t249.length co29) t249) ∧ Aside0 (Kd.R Kd.bool 4 w' w.heap.size (fun _ => True) (.slice (some ad258) y254.length co23) y254) ∧ Aside0 (Kd.R k56 56 w' w.heap.size (fun _ => True) (.slice Ao34 t259.length co34) t259) ∧ Aside0 (w'.heap[gb244]? = some (.cells #[.int .i64 a1_0, .int .i64 a1_1] 44 (0, 0))) ∧ Aside0 (w'.heap[gb245]? = some (.cells #[.int .i64 a2_0, .int .i64 a2_1, .int .i64 a2_2] 68 (0, 0))) ∧ Aside0 (Below w.heap.size w w'))
                          case atStart => exact ⟨(0), (by first | rfl | (simp; done) | (simp [*]; done)), H', ⟨Nat.le_refl _⟩, ⟨by (with_reducible repeat (first | apply Kd.R_alloc | apply Kd.R_drewN | apply Kd.R_drew)); exact HO_7.out⟩, ⟨by (with_reducible repeat (first | apply Kd.R_alloc | apply Kd.R_drewN | apply Kd.R_drew)); exact HO_38.out⟩, ⟨by (with_reducible repeat (first | apply Kd.R_alloc | apply Kd.R_drewN | apply Kd.R_drew)); exact HO_11.out⟩, ⟨by (with_reducible repeat (first | refine blk_drewN ?_ _ | refine blk_drew ?_ | refine blk_alloc ?_ _)); exact BK244.out⟩, ⟨by (with_reducible repeat (first | refine blk_drewN ?_ _ | refine blk_drew ?_ | refine blk_alloc ?_ _)); exact BK245.out⟩, ⟨by repeat (first | (with_reducible first | exact HB.out | apply below_alloc | apply pw_below_drewN | apply below_drew1 | refine below_set ?_ GE244.out | refine below_set ?_ GE245.out) | exact HB.out)⟩⟩
                          case round =>
                            clear H'
                            try clear c1
                            try clear c2
                            try clear p2
                            try clear q2
                            try clear hx2
                            try clear c3
                            try clear c7
                            try clear c8
                            try clear c10
                            try clear c13
                            try clear c17
                            try clear c17b0
                            try clear c17b1
                            try clear c18
                            try clear c24
                            try clear c24b0
                            try clear c25
                            try clear c25b0
                            try clear p25
                            try clear q25
                            try clear hx25
                            try clear c26
                            try clear c26b0
                            try clear c29
                            try clear c30
                            try clear c31
                            try clear c31b0
                            try clear c31b1
                            try clear c33
                            try clear c34
                            try clear hcz11_0
                            try clear hcz11_1
                            try clear hcz11_2
                            try clear hcz19_0
                            try clear hcz19_1
                            try clear hfz11_0
                            try clear hfz11_1
                            try clear hfz11_2
                            try clear hfz19_0
                            try clear hfz19_1
                            try clear hx258_0
                            try clear p2
                            try clear p25
                            try clear p258
                            try clear q2
                            try clear q25
                            try clear q258
                            obtain ⟨x61_4, rfl, HA, HK4, HO_7, HO_38, HO_59, BK244, BK245, HB⟩ := hrel
                            cases gk with
                            | zero => exact absurd HA.out (by simp [metrolablaw47_GaugeKeeps.l1])
                            | succ k4 =>
                              have H := HA.out
                              clear HA
                              simp only [metrolablaw47_GaugeKeeps.l1] at H
                              by_cases c35 : x61_4 < (t259.length : Int)
                              · rw [if_pos c35] at H
                                have c35b0 : decide (x61_4 < (t259.length : Int)) = true := decide_eq_true c35
                                clear c35
                                by_cases c36 : 0 ≤ x61_4
                                · rw [if_pos c36] at H
                                  have c36b0 : decide (0 ≤ x61_4) = true := decide_eq_true c36
                                  clear c36
                                  by_cases c37 : x61_4 < (t259.length : Int)
                                  · rw [if_pos c37] at H
                                    have c37b0 : decide (x61_4 < (t259.length : Int)) = true := decide_eq_true c37
                                    clear c37
                                    have HC38 := Aside0.mk H
                                    clear H
                                    have p263 : 0 ≤ (x61_4 : Int) := of_decide_eq_true (by first | (with_reducible assumption) | assumption)
                                    have q263 : x61_4 < (t259.length : Int) := of_decide_eq_true (by first | (with_reducible assumption) | assumption)
                                    obtain ⟨ad263, e263, hx263_0, hx263_1, hx263_2, hx263_3⟩ := at_T56 (Kd.R_reads' HO_59.out).2.2 x61_4 p263 q263
                                    cases e263
                                    replace p263 := eq_true p263
                                    replace q263 := eq_true q263
                                    go_upto_if 72 with (first | ((with_reducible refine gate_dst (N := 14) rfl ?_); (try (refine gate_guard (by rfl) ?_; dsimp only)); refine box_event ?hg (N := 14) ?hd (cs := #[.int .i64 0, .int .i64 0, .bool false, .int .i64 0]) (t := 56) ?hr ?_; (case hd => rfl); (case hg => rfl); (case hr => first | (go_simp; done) | (go_simp; rfl)); intro gb264 hg w39 hbox hb; have n0_ := Aside0.mk (Kd.R_below (by (with_reducible repeat (first | apply Kd.R_alloc | apply Kd.R_drewN | apply Kd.R_drew)); exact HO_7.out) hb); have n1_ := Aside0.mk (Kd.R_below (by (with_reducible repeat (first | apply Kd.R_alloc | apply Kd.R_drewN | apply Kd.R_drew)); exact HO_38.out) hb); have n2_ := Aside0.mk (Kd.R_below (Kd.R_elderB (by (with_reducible repeat (first | apply Kd.R_alloc | apply Kd.R_drewN | apply Kd.R_drew)); exact HO_59.out) gb264 (Nat.le_of_eq hg.symm)) hb); have n3_ := Aside0.mk (blk_below (g := gb244) (o := .cells #[.int .i64 a1_0, .int .i64 a1_1] 44 (0, 0)) (by (with_reducible repeat (first | refine blk_drewN ?_ _ | refine blk_drew ?_ | refine blk_alloc ?_ _)); exact BK244.out) hb); have n4_ := Aside0.mk (blk_below (g := gb245) (o := .cells #[.int .i64 a2_0, .int .i64 a2_1, .int .i64 a2_2] 68 (0, 0)) (by (with_reducible repeat (first | refine blk_drewN ?_ _ | refine blk_drew ?_ | refine blk_alloc ?_ _)); exact BK245.out) hb); have n5_ := Aside0.mk (below_step (by repeat (first | (with_reducible first | exact HB.out | apply below_alloc | apply pw_below_drewN | apply below_drew1 | refine below_set ?_ GE244.out | refine below_set ?_ GE245.out) | exact HB.out)) hb); have n6_ := Aside0.mk (hbox); have n7_ := Aside0.mk ((by rw [hg]; exact (below_size (by repeat (first | (with_reducible first | exact HB.out | apply below_alloc | apply pw_below_drewN | apply below_drew1 | refine below_set ?_ GE244.out | refine below_set ?_ GE245.out) | exact HB.out))) : w.heap.size ≤ gb264)); have n8_ := Aside0.mk ((by rw [hg]; exact (below_size (by repeat (first | (with_reducible first | exact HB.out | apply below_alloc | apply pw_below_drewN | apply below_drew1 | refine below_set ?_ GE244.out | refine below_set ?_ GE245.out) | exact HB.out))) : w.heap.size ≤ gb264)); have n9_ := Aside0.mk ((by rw [hg]; exact Nat.ne_of_lt (blk_lt (g := gb244) (o := .cells #[.int .i64 a1_0, .int .i64 a1_1] 44 (0, 0)) (by (with_reducible repeat (first | refine blk_drewN ?_ _ | refine blk_drew ?_ | refine blk_alloc ?_ _)); exact BK244.out)) : gb244 ≠ gb264)); have n10_ := Aside0.mk ((by rw [hg]; exact Nat.ne_of_gt (blk_lt (g := gb244) (o := .cells #[.int .i64 a1_0, .int .i64 a1_1] 44 (0, 0)) (by (with_reducible repeat (first | refine blk_drewN ?_ _ | refine blk_drew ?_ | refine blk_alloc ?_ _)); exact BK244.out)) : gb264 ≠ gb244)); have n11_ := Aside0.mk ((by rw [hg]; exact Nat.ne_of_lt (blk_lt (g := gb245) (o := .cells #[.int .i64 a2_0, .int .i64 a2_1, .int .i64 a2_2] 68 (0, 0)) (by (with_reducible repeat (first | refine blk_drewN ?_ _ | refine blk_drew ?_ | refine blk_alloc ?_ _)); exact BK245.out)) : gb245 ≠ gb264)); have n12_ := Aside0.mk ((by rw [hg]; exact Nat.ne_of_gt (blk_lt (g := gb245) (o := .cells #[.int .i64 a2_0, .int .i64 a2_1, .int .i64 a2_2] 68 (0, 0)) (by (with_reducible repeat (first | refine blk_drewN ?_ _ | refine blk_drew ?_ | refine blk_alloc ?_ _)); exact BK245.out)) : gb264 ≠ gb245)); clear HO_7; clear HO_38; clear HO_59; clear BK244; clear BK245; clear HB; have HO_7 := n0_; have HO_38 := n1_; have HO_59 := n2_; have BK244 := n3_; have BK245 := n4_; have HB := n5_; have BK264 := n6_; have GW264 := n7_; have GE264 := n8_; have NB244_264 := n9_; have NB264_244 := n10_; have NB245_264 := n11_; have NB264_245 := n12_; clear n0_ n1_ n2_ n3_ n4_ n5_ n6_ n7_ n8_ n9_ n10_ n11_ n12_; clear hb hbox hg; have hnb40 := NB264_244.out; have hnc40 := NB244_264.out; have hnb41 := NB264_245.out; have hnc41 := NB245_264.out; have hcz42_0 : w39.cell? ⟨gb264, 0, none⟩ = some (.int .i64 0) := (blk_cell BK264.out 0).trans rfl; have hcz42_1 : w39.cell? ⟨gb264, 1, none⟩ = some (.int .i64 0) := (blk_cell BK264.out 1).trans rfl; have hcz42_2 : w39.cell? ⟨gb264, 2, none⟩ = some (.bool false) := (blk_cell BK264.out 2).trans rfl; have hcz42_3 : w39.cell? ⟨gb264, 3, none⟩ = some (.int .i64 0) := (blk_cell BK264.out 3).trans rfl; have hfz42_0 := blk_frozen BK264.out 0; have hfz42_1 := blk_frozen BK264.out 1; have hfz42_2 := blk_frozen BK264.out 2; have hfz42_3 := blk_frozen BK264.out 3; have hnb43 := NB245_244.out; have hnc43 := NB244_245.out; have hcz44_0 : w39.cell? ⟨gb245, 0, none⟩ = some (.int .i64 a2_0) := (blk_cell BK245.out 0).trans rfl; have hcz44_1 : w39.cell? ⟨gb245, 1, none⟩ = some (.int .i64 a2_1) := (blk_cell BK245.out 1).trans rfl; have hcz44_2 : w39.cell? ⟨gb245, 2, none⟩ = some (.int .i64 a2_2) := (blk_cell BK245.out 2).trans rfl; have hfz44_0 := blk_frozen BK245.out 0; have hfz44_1 := blk_frozen BK245.out 1; have hfz44_2 := blk_frozen BK245.out 2))
                                    (try simp only [Act.put, List.setIfInBounds_toArray, List.set_cons_zero, List.set_cons_succ])
                                    go_cut [15] (fun v15 wc => ∃ (kq : Nat) (x15_37 : Int), v15 = .int .i64 x15_37 ∧ Aside0 (metrolablaw47_GaugeKeeps.j4 kq l0 t249 x61_4 x15_37 y254 (y254.length : Int) x40_2 t259 (t259.length : Int) x61_4 a2_0 a2_1 a2_2 = some r) ∧ Aside0 (kq ≤ k4) ∧ Aside0 (Kd.R k104 104 wc w.heap.size (fun _ => True) (.slice Ao29 t249.length co29) t249) ∧ Aside0 (Kd.R Kd.bool 4 wc w.heap.size (fun _ => True) (.slice (some ad258) y254.length co23) y254) ∧ Aside0 (Kd.R k56 56 wc w.heap.size (fun k_ => k_ ≠ gb264) (.slice (some ad263) t259.length co34) t259) ∧ Aside0 (wc.heap[gb244]? = some (.cells #[.int .i64 a1_0, .int .i64 a1_1] 44 (0, 0))) ∧ Aside0 (wc.heap[gb245]? = some (.cells #[.int .i64 a2_0, .int .i64 a2_1, .int .i64 a2_2] 68 (0, 0))) ∧ Aside0 (wc.heap[gb264]? = some (.cells #[.int .i64 ((rd_T56 t259 x61_4).f0.f0), .int .i64 ((rd_T56 t259 x61_4).f0.f1), .bool ((rd_T56 t259 x61_4).f1), .int .i64 ((rd_T56 t259 x61_4).f2)] 56 (0, 0))) ∧ Aside0 (Below w.heap.size w wc))
                                    case first =>
                                      have H := HC38.out
                                      clear HC38
                                      obtain ⟨bq45, hbq45⟩ : ∃ b_ : Bool, b_ = ((rd_T56 t259 x61_4).f1) := ⟨_, rfl⟩
                                      replace H : (if bq45 = true then (metrolablaw47_GaugeKeeps.j4 k4 l0 t249 x61_4 (wrap64 (((rd_T56 t259 x61_4).f2) - a2_2)) y254 (y254.length : Int) x40_2 t259 (t259.length : Int) x61_4 a2_0 a2_1 a2_2) else (metrolablaw47_GaugeKeeps.j4 k4 l0 t249 x61_4 (wrap64 (a2_2 - ((rd_T56 t259 x61_4).f2))) y254 (y254.length : Int) x40_2 t259 (t259.length : Int) x61_4 a2_0 a2_1 a2_2)) = some r := by rw [← hbq45] at H; exact H
                                      have Nbq45 := Aside0.mk hbq45
                                      clear hbq45
                                      (try rw [← Nbq45.out])
                                      by_cases c46 : bq45 = true
                                      · subst c46
                                        have H1 : (metrolablaw47_GaugeKeeps.j4 k4 l0 t249 x61_4 (wrap64 (((rd_T56 t259 x61_4).f2) - a2_2)) y254 (y254.length : Int) x40_2 t259 (t259.length : Int) x61_4 a2_0 a2_1 a2_2) = some r := by rw [if_pos rfl] at H; exact H
                                        clear H
                                        have H := H1
                                        clear H1
                                        have H' := Aside0.mk H
                                        clear H
                                        have hnb47 := NB264_244.out
                                        have hnc47 := NB244_264.out
                                        have hnb48 := NB264_245.out
                                        have hnc48 := NB245_264.out
                                        have hcz49_0 : w39.cell? ⟨gb264, 0, none⟩ = some (.int .i64 0) := (blk_cell BK264.out 0).trans rfl
                                        have hcz49_1 : w39.cell? ⟨gb264, 1, none⟩ = some (.int .i64 0) := (blk_cell BK264.out 1).trans rfl
                                        have hcz49_2 : w39.cell? ⟨gb264, 2, none⟩ = some (.bool false) := (blk_cell BK264.out 2).trans rfl
                                        have hcz49_3 : w39.cell? ⟨gb264, 3, none⟩ = some (.int .i64 0) := (blk_cell BK264.out 3).trans rfl
                                        have hfz49_0 := blk_frozen BK264.out 0
                                        have hfz49_1 := blk_frozen BK264.out 1
                                        have hfz49_2 := blk_frozen BK264.out 2
                                        have hfz49_3 := blk_frozen BK264.out 3
                                        have hnb50 := NB245_244.out
                                        have hnc50 := NB244_245.out
                                        have hcz51_0 : w39.cell? ⟨gb245, 0, none⟩ = some (.int .i64 a2_0) := (blk_cell BK245.out 0).trans rfl
                                        have hcz51_1 : w39.cell? ⟨gb245, 1, none⟩ = some (.int .i64 a2_1) := (blk_cell BK245.out 1).trans rfl
                                        have hcz51_2 : w39.cell? ⟨gb245, 2, none⟩ = some (.int .i64 a2_2) := (blk_cell BK245.out 2).trans rfl
                                        have hfz51_0 := blk_frozen BK245.out 0
                                        have hfz51_1 := blk_frozen BK245.out 1
                                        have hfz51_2 := blk_frozen BK245.out 2
                                        go_wp2
                                        go_meet
                                        case rel => exact ⟨_, (wrap64 (((rd_T56 t259 x61_4).f2) - a2_2)), (by first | rfl | (simp; done) | (simp [*]; done)), H', ⟨by have := HJ3.out; have := HK2.out; have := HJ27.out; have := HK4.out; first | omega | exact Nat.le_refl _⟩, ⟨by (with_reducible repeat (first | apply Kd.R_alloc | apply Kd.R_drewN | apply Kd.R_drew)); exact Kd.R_mono (Kd.R_far (p := ⟨gb264, 3, none⟩) (Kd.R_far (p := ⟨gb264, 2, none⟩) (Kd.R_far (p := ⟨gb264, 1, none⟩) (Kd.R_far (p := ⟨gb264, 0, none⟩) (Kd.R_types HO_7.out BK264.out (by decide)) (fun _ hk => hk.2) (.int .i64 ((rd_T56 t259 x61_4).f0.f0))) (fun _ hk => hk.2) (.int .i64 ((rd_T56 t259 x61_4).f0.f1))) (fun _ hk => hk.2) (.bool (true))) (fun _ hk => hk.2) (.int .i64 ((rd_T56 t259 x61_4).f2))) (fun _ hk => trivial)⟩, ⟨by (with_reducible repeat (first | apply Kd.R_alloc | apply Kd.R_drewN | apply Kd.R_drew)); exact Kd.R_mono (Kd.R_far (p := ⟨gb264, 3, none⟩) (Kd.R_far (p := ⟨gb264, 2, none⟩) (Kd.R_far (p := ⟨gb264, 1, none⟩) (Kd.R_far (p := ⟨gb264, 0, none⟩) (Kd.R_types HO_38.out BK264.out (by decide)) (fun _ hk => hk.2) (.int .i64 ((rd_T56 t259 x61_4).f0.f0))) (fun _ hk => hk.2) (.int .i64 ((rd_T56 t259 x61_4).f0.f1))) (fun _ hk => hk.2) (.bool (true))) (fun _ hk => hk.2) (.int .i64 ((rd_T56 t259 x61_4).f2))) (fun _ hk => trivial)⟩, ⟨by (with_reducible repeat (first | apply Kd.R_alloc | apply Kd.R_drewN | apply Kd.R_drew)); exact Kd.R_mono (Kd.R_far (p := ⟨gb264, 3, none⟩) (Kd.R_far (p := ⟨gb264, 2, none⟩) (Kd.R_far (p := ⟨gb264, 1, none⟩) (Kd.R_far (p := ⟨gb264, 0, none⟩) (Kd.R_mono HO_59.out (fun k_ hk => (⟨hk, hk.2⟩ : _ ∧ k_ ≠ gb264))) (fun _ hk => hk.2) (.int .i64 ((rd_T56 t259 x61_4).f0.f0))) (fun _ hk => hk.2) (.int .i64 ((rd_T56 t259 x61_4).f0.f1))) (fun _ hk => hk.2) (.bool (true))) (fun _ hk => hk.2) (.int .i64 ((rd_T56 t259 x61_4).f2))) (fun _ hk => hk.1.2)⟩, ⟨by (with_reducible repeat (first | refine blk_drewN ?_ _ | refine blk_drew ?_ | refine blk_alloc ?_ _)); refine blk_far ?_ NB244_264.out _; (with_reducible repeat (first | refine blk_drewN ?_ _ | refine blk_drew ?_ | refine blk_alloc ?_ _)); refine blk_far ?_ NB244_264.out _; (with_reducible repeat (first | refine blk_drewN ?_ _ | refine blk_drew ?_ | refine blk_alloc ?_ _)); refine blk_far ?_ NB244_264.out _; (with_reducible repeat (first | refine blk_drewN ?_ _ | refine blk_drew ?_ | refine blk_alloc ?_ _)); refine blk_far ?_ NB244_264.out _; (with_reducible repeat (first | refine blk_drewN ?_ _ | refine blk_drew ?_ | refine blk_alloc ?_ _)); exact BK244.out⟩, ⟨by (with_reducible repeat (first | refine blk_drewN ?_ _ | refine blk_drew ?_ | refine blk_alloc ?_ _)); refine blk_far ?_ NB245_264.out _; (with_reducible repeat (first | refine blk_drewN ?_ _ | refine blk_drew ?_ | refine blk_alloc ?_ _)); refine blk_far ?_ NB245_264.out _; (with_reducible repeat (first | refine blk_drewN ?_ _ | refine blk_drew ?_ | refine blk_alloc ?_ _)); refine blk_far ?_ NB245_264.out _; (with_reducible repeat (first | refine blk_drewN ?_ _ | refine blk_drew ?_ | refine blk_alloc ?_ _)); refine blk_far ?_ NB245_264.out _; (with_reducible repeat (first | refine blk_drewN ?_ _ | refine blk_drew ?_ | refine blk_alloc ?_ _)); exact BK245.out⟩, ⟨by (with_reducible repeat (first | refine blk_drewN ?_ _ | refine blk_drew ?_ | refine blk_alloc ?_ _)); refine blk_put (cs := #[.int .i64 ((rd_T56 t259 x61_4).f0.f0), .int .i64 ((rd_T56 t259 x61_4).f0.f1), .bool (true), .int .i64 0]) ?_ 3 _ (by first | rfl | (rw [← Nbq45.out]; rfl)); (with_reducible repeat (first | refine blk_drewN ?_ _ | refine blk_drew ?_ | refine blk_alloc ?_ _)); refine blk_put (cs := #[.int .i64 ((rd_T56 t259 x61_4).f0.f0), .int .i64 ((rd_T56 t259 x61_4).f0.f1), .bool false, .int .i64 0]) ?_ 2 _ rfl; (with_reducible repeat (first | refine blk_drewN ?_ _ | refine blk_drew ?_ | refine blk_alloc ?_ _)); refine blk_put (cs := #[.int .i64 ((rd_T56 t259 x61_4).f0.f0), .int .i64 0, .bool false, .int .i64 0]) ?_ 1 _ rfl; (with_reducible repeat (first | refine blk_drewN ?_ _ | refine blk_drew ?_ | refine blk_alloc ?_ _)); refine blk_put (cs := #[.int .i64 0, .int .i64 0, .bool false, .int .i64 0]) ?_ 0 _ rfl; (with_reducible repeat (first | refine blk_drewN ?_ _ | refine blk_drew ?_ | refine blk_alloc ?_ _)); exact BK264.out⟩, ⟨by repeat (first | (with_reducible first | exact HB.out | apply below_alloc | apply pw_below_drewN | apply below_drew1 | refine below_set ?_ GE244.out | refine below_set ?_ GE245.out | refine below_set ?_ GE264.out) | exact HB.out)⟩⟩
                                      · replace c46 := Bool.eq_false_iff.mpr c46
                                        subst c46
                                        have H1 : (metrolablaw47_GaugeKeeps.j4 k4 l0 t249 x61_4 (wrap64 (a2_2 - ((rd_T56 t259 x61_4).f2))) y254 (y254.length : Int) x40_2 t259 (t259.length : Int) x61_4 a2_0 a2_1 a2_2) = some r := by rw [if_neg (show ¬ (false = true) by decide)] at H; exact H
                                        clear H
                                        have H := H1
                                        clear H1
                                        have H' := Aside0.mk H
                                        clear H
                                        go_wp2
                                        go_meet
                                        case rel => exact ⟨_, (wrap64 (a2_2 - ((rd_T56 t259 x61_4).f2))), (by first | rfl | (simp; done) | (simp [*]; done)), H', ⟨by have := HJ3.out; have := HK2.out; have := HJ27.out; have := HK4.out; first | omega | exact Nat.le_refl _⟩, ⟨by (with_reducible repeat (first | apply Kd.R_alloc | apply Kd.R_drewN | apply Kd.R_drew)); exact Kd.R_mono (Kd.R_far (p := ⟨gb264, 3, none⟩) (Kd.R_far (p := ⟨gb264, 2, none⟩) (Kd.R_far (p := ⟨gb264, 1, none⟩) (Kd.R_far (p := ⟨gb264, 0, none⟩) (Kd.R_types HO_7.out BK264.out (by decide)) (fun _ hk => hk.2) (.int .i64 ((rd_T56 t259 x61_4).f0.f0))) (fun _ hk => hk.2) (.int .i64 ((rd_T56 t259 x61_4).f0.f1))) (fun _ hk => hk.2) (.bool (false))) (fun _ hk => hk.2) (.int .i64 ((rd_T56 t259 x61_4).f2))) (fun _ hk => trivial)⟩, ⟨by (with_reducible repeat (first | apply Kd.R_alloc | apply Kd.R_drewN | apply Kd.R_drew)); exact Kd.R_mono (Kd.R_far (p := ⟨gb264, 3, none⟩) (Kd.R_far (p := ⟨gb264, 2, none⟩) (Kd.R_far (p := ⟨gb264, 1, none⟩) (Kd.R_far (p := ⟨gb264, 0, none⟩) (Kd.R_types HO_38.out BK264.out (by decide)) (fun _ hk => hk.2) (.int .i64 ((rd_T56 t259 x61_4).f0.f0))) (fun _ hk => hk.2) (.int .i64 ((rd_T56 t259 x61_4).f0.f1))) (fun _ hk => hk.2) (.bool (false))) (fun _ hk => hk.2) (.int .i64 ((rd_T56 t259 x61_4).f2))) (fun _ hk => trivial)⟩, ⟨by (with_reducible repeat (first | apply Kd.R_alloc | apply Kd.R_drewN | apply Kd.R_drew)); exact Kd.R_mono (Kd.R_far (p := ⟨gb264, 3, none⟩) (Kd.R_far (p := ⟨gb264, 2, none⟩) (Kd.R_far (p := ⟨gb264, 1, none⟩) (Kd.R_far (p := ⟨gb264, 0, none⟩) (Kd.R_mono HO_59.out (fun k_ hk => (⟨hk, hk.2⟩ : _ ∧ k_ ≠ gb264))) (fun _ hk => hk.2) (.int .i64 ((rd_T56 t259 x61_4).f0.f0))) (fun _ hk => hk.2) (.int .i64 ((rd_T56 t259 x61_4).f0.f1))) (fun _ hk => hk.2) (.bool (false))) (fun _ hk => hk.2) (.int .i64 ((rd_T56 t259 x61_4).f2))) (fun _ hk => hk.1.2)⟩, ⟨by (with_reducible repeat (first | refine blk_drewN ?_ _ | refine blk_drew ?_ | refine blk_alloc ?_ _)); refine blk_far ?_ NB244_264.out _; (with_reducible repeat (first | refine blk_drewN ?_ _ | refine blk_drew ?_ | refine blk_alloc ?_ _)); refine blk_far ?_ NB244_264.out _; (with_reducible repeat (first | refine blk_drewN ?_ _ | refine blk_drew ?_ | refine blk_alloc ?_ _)); refine blk_far ?_ NB244_264.out _; (with_reducible repeat (first | refine blk_drewN ?_ _ | refine blk_drew ?_ | refine blk_alloc ?_ _)); refine blk_far ?_ NB244_264.out _; (with_reducible repeat (first | refine blk_drewN ?_ _ | refine blk_drew ?_ | refine blk_alloc ?_ _)); exact BK244.out⟩, ⟨by (with_reducible repeat (first | refine blk_drewN ?_ _ | refine blk_drew ?_ | refine blk_alloc ?_ _)); refine blk_far ?_ NB245_264.out _; (with_reducible repeat (first | refine blk_drewN ?_ _ | refine blk_drew ?_ | refine blk_alloc ?_ _)); refine blk_far ?_ NB245_264.out _; (with_reducible repeat (first | refine blk_drewN ?_ _ | refine blk_drew ?_ | refine blk_alloc ?_ _)); refine blk_far ?_ NB245_264.out _; (with_reducible repeat (first | refine blk_drewN ?_ _ | refine blk_drew ?_ | refine blk_alloc ?_ _)); refine blk_far ?_ NB245_264.out _; (with_reducible repeat (first | refine blk_drewN ?_ _ | refine blk_drew ?_ | refine blk_alloc ?_ _)); exact BK245.out⟩, ⟨by (with_reducible repeat (first | refine blk_drewN ?_ _ | refine blk_drew ?_ | refine blk_alloc ?_ _)); refine blk_put (cs := #[.int .i64 ((rd_T56 t259 x61_4).f0.f0), .int .i64 ((rd_T56 t259 x61_4).f0.f1), .bool (false), .int .i64 0]) ?_ 3 _ (by first | rfl | (rw [← Nbq45.out]; rfl)); (with_reducible repeat (first | refine blk_drewN ?_ _ | refine blk_drew ?_ | refine blk_alloc ?_ _)); refine blk_put (cs := #[.int .i64 ((rd_T56 t259 x61_4).f0.f0), .int .i64 ((rd_T56 t259 x61_4).f0.f1), .bool false, .int .i64 0]) ?_ 2 _ rfl; (with_reducible repeat (first | refine blk_drewN ?_ _ | refine blk_drew ?_ | refine blk_alloc ?_ _)); refine blk_put (cs := #[.int .i64 ((rd_T56 t259 x61_4).f0.f0), .int .i64 0, .bool false, .int .i64 0]) ?_ 1 _ rfl; (with_reducible repeat (first | refine blk_drewN ?_ _ | refine blk_drew ?_ | refine blk_alloc ?_ _)); refine blk_put (cs := #[.int .i64 0, .int .i64 0, .bool false, .int .i64 0]) ?_ 0 _ rfl; (with_reducible repeat (first | refine blk_drewN ?_ _ | refine blk_drew ?_ | refine blk_alloc ?_ _)); exact BK264.out⟩, ⟨by repeat (first | (with_reducible first | exact HB.out | apply below_alloc | apply pw_below_drewN | apply below_drew1 | refine below_set ?_ GE244.out | refine below_set ?_ GE245.out | refine below_set ?_ GE264.out) | exact HB.out)⟩⟩
                                    case rest =>
                                      clear HC38
                                      try clear c1
                                      try clear c2
                                      try clear p2
                                      try clear q2
                                      try clear hx2
                                      try clear c3
                                      try clear c4
                                      try clear q4
                                      try clear c5
                                      try clear p6
                                      try clear c7
                                      try clear c8
                                      try clear c10
                                      try clear c13
                                      try clear c17
                                      try clear c17b0
                                      try clear c17b1
                                      try clear c18
                                      try clear c24
                                      try clear c24b0
                                      try clear c25
                                      try clear c25b0
                                      try clear p25
                                      try clear q25
                                      try clear hx25
                                      try clear c26
                                      try clear c26b0
                                      try clear p26
                                      try clear q26
                                      try clear hx26
                                      try clear c29
                                      try clear c30
                                      try clear c31
                                      try clear c31b0
                                      try clear c31b1
                                      try clear c33
                                      try clear c34
                                      try clear c35
                                      try clear c35b0
                                      try clear c36
                                      try clear c36b0
                                      try clear c37
                                      try clear c37b0
                                      try clear c40
                                      try clear c41
                                      try clear c43
                                      try clear q45
                                      try clear c46
                                      try clear c47
                                      try clear c48
                                      try clear c50
                                      try clear hcz11_0
                                      try clear hcz11_1
                                      try clear hcz11_2
                                      try clear hcz19_0
                                      try clear hcz19_1
                                      try clear hcz42_0
                                      try clear hcz42_1
                                      try clear hcz42_2
                                      try clear hcz42_3
                                      try clear hcz44_0
                                      try clear hcz44_1
                                      try clear hcz44_2
                                      try clear hcz49_0
                                      try clear hcz49_1
                                      try clear hcz49_2
                                      try clear hcz49_3
                                      try clear hcz51_0
                                      try clear hcz51_1
                                      try clear hcz51_2
                                      try clear hfz11_0
                                      try clear hfz11_1
                                      try clear hfz11_2
                                      try clear hfz19_0
                                      try clear hfz19_1
                                      try clear hfz42_0
                                      try clear hfz42_1
                                      try clear hfz42_2
                                      try clear hfz42_3
                                      try clear hfz44_0
                                      try clear hfz44_1
                                      try clear hfz44_2
                                      try clear hfz49_0
                                      try clear hfz49_1
                                      try clear hfz49_2
                                      try clear hfz49_3
                                      try clear hfz51_0
                                      try clear hfz51_1
                                      try clear hfz51_2
                                      try clear hx258_0
                                      try clear hx263_0
                                      try clear hx263_1
                                      try clear hx263_2
                                      try clear hx263_3
                                      try clear p2
                                      try clear p25
                                      try clear p258
                                      try clear p263
                                      try clear q2
                                      try clear q25
                                      try clear q258
                                      try clear q263
                                      obtain ⟨kq, x15_37, rfl, HA, HJ37, HO_7, HO_38, HO_59, BK244, BK245, BK264, HB⟩ := hcut
                                      cases kq with
                                      | zero => exact absurd HA.out (by simp [metrolablaw47_GaugeKeeps.j4])
                                      | succ kj37 =>
                                        have H := HA.out
                                        clear HA
                                        simp only [metrolablaw47_GaugeKeeps.j4] at H
                                        by_cases c52 : 0 ≤ x61_4
                                        · rw [if_pos c52] at H
                                          have c52b0 : decide (0 ≤ x61_4) = true := decide_eq_true c52
                                          clear c52
                                          by_cases c53 : x61_4 < (l0.length : Int)
                                          · rw [if_pos c53] at H
                                            have c53b0 : decide (x61_4 < (l0.length : Int)) = true := decide_eq_true c53
                                            clear c53
                                            replace H := Option.bind_eq_some_iff.mp H
                                            obtain ⟨⟨t266, t267⟩, A540, H⟩ := H
                                            replace H : (if t267 = 0 then ((metrolabref44_Inside.f ((rd_T27 l0 x61_4).f0.f0) ((rd_T27 l0 x61_4).f0.f1) ((rd_T27 l0 x61_4).f1.f0) ((rd_T27 l0 x61_4).f1.f1) ((rd_T27 l0 x61_4).f2) ((rd_T27 l0 x61_4).f3) ((rd_T27 l0 x61_4).f4) a2_2).bind fun t269 => (if t269 = true then (if x15_37 < 0 then (metrolablaw47_GaugeKeeps.j5 kj37 l0 t249 x61_4 y254 (y254.length : Int) x40_2 t259 (t259.length : Int) x61_4 true a2_0 a2_1 a2_2) else (metrolablaw47_GaugeKeeps.j5 kj37 l0 t249 x61_4 y254 (y254.length : Int) x40_2 t259 (t259.length : Int) x61_4 (decide ((wrap64 (4 * t266)) > (wrap64 (x15_37 * x15_37)))) a2_0 a2_1 a2_2)) else (metrolablaw47_GaugeKeeps.j5 kj37 l0 t249 x61_4 y254 (y254.length : Int) x40_2 t259 (t259.length : Int) x61_4 true a2_0 a2_1 a2_2))) else (some false)) = some r := H
                                            have A54 := Aside0.mk A540
                                            clear A540
                                            by_cases c55 : t267 = 0
                                            · rw [if_pos c55] at H
                                              have c55b0 : (t267 == 0) = true := beq_iff_eq.mpr c55
                                              have c55b1 : (t267 != 0) = false := bne_eq_false_iff_eq.mpr c55
                                              clear c55
                                              have HC56 := Aside0.mk H
                                              clear H
                                              try go_wp2
                                              have n0_ := Aside0.mk (Kd.R_drew HO_7.out)
                                              have n1_ := Aside0.mk (Kd.R_drew HO_38.out)
                                              have n2_ := Aside0.mk (Kd.R_drew HO_59.out)
                                              have n3_ := Aside0.mk (blk_drew BK244.out)
                                              have n4_ := Aside0.mk (blk_drew BK245.out)
                                              have n5_ := Aside0.mk (blk_drew BK264.out)
                                              have n6_ := Aside0.mk (below_drew1 HB.out)
                                              clear HO_7
                                              clear HO_38
                                              clear HO_59
                                              clear BK244
                                              clear BK245
                                              clear BK264
                                              clear HB
                                              have HO_7 := n0_
                                              have HO_38 := n1_
                                              have HO_59 := n2_
                                              have BK244 := n3_
                                              have BK245 := n4_
                                              have BK264 := n5_
                                              have HB := n6_
                                              clear n0_ n1_ n2_ n3_ n4_ n5_ n6_
                                              have p265 : 0 ≤ (x61_4 : Int) := of_decide_eq_true (by first | (with_reducible assumption) | assumption)
                                              have q265 : x61_4 < (l0.length : Int) := of_decide_eq_true (by first | (with_reducible assumption) | assumption)
                                              obtain ⟨ad265, e265, hx265_0, hx265_1, hx265_2, hx265_3, hx265_4, hx265_5, hx265_6⟩ := at_T27 HR0.out x61_4 p265 q265
                                              have hw265_6 := hx265_6
                                              have hw265_5 := hx265_5
                                              have hw265_4 := hx265_4
                                              have hw265_3 := hx265_3
                                              have hw265_2 := hx265_2
                                              have hw265_1 := hx265_1
                                              have hw265_0 := hx265_0
                                              cases e265
                                              replace hx265_0 := (HB.out.cell (World.block_lt_of_cell? w _ hx265_0)).trans hx265_0
                                              replace hx265_1 := (HB.out.cell (World.block_lt_of_cell? w _ hx265_1)).trans hx265_1
                                              replace hx265_2 := (HB.out.cell (World.block_lt_of_cell? w _ hx265_2)).trans hx265_2
                                              replace hx265_3 := (HB.out.cell (World.block_lt_of_cell? w _ hx265_3)).trans hx265_3
                                              replace hx265_4 := (HB.out.cell (World.block_lt_of_cell? w _ hx265_4)).trans hx265_4
                                              replace hx265_5 := (HB.out.cell (World.block_lt_of_cell? w _ hx265_5)).trans hx265_5
                                              replace hx265_6 := (HB.out.cell (World.block_lt_of_cell? w _ hx265_6)).trans hx265_6
                                              replace p265 := eq_true p265
                                              replace q265 := eq_true q265
                                              refine start_ (n := 11) (S := fun w' => w'.cell? ⟨gb245, 0, none⟩ = some (.int .i64 a2_0) ∧ w'.cell? ⟨gb245, 1, none⟩ = some (.int .i64 a2_1) ∧ w'.cell? ⟨gb245, 2, none⟩ = some (.int .i64 a2_2) ∧ w'.cell? (ad265.add ((x61_4).toNat * 7)) = some (.int .i64 ((rd_T27 l0 x61_4).f0.f0)) ∧ w'.cell? ⟨(ad265.add ((x61_4).toNat * 7)).block, (ad265.add ((x61_4).toNat * 7)).off + 1, none⟩ = some (.int .i64 ((rd_T27 l0 x61_4).f0.f1)) ∧ w'.cell? ⟨(ad265.add ((x61_4).toNat * 7)).block, (ad265.add ((x61_4).toNat * 7)).off + 2, none⟩ = some (.int .i64 ((rd_T27 l0 x61_4).f1.f0)) ∧ w'.cell? ⟨(ad265.add ((x61_4).toNat * 7)).block, (ad265.add ((x61_4).toNat * 7)).off + 3, none⟩ = some (.int .i64 ((rd_T27 l0 x61_4).f1.f1)) ∧ w'.cell? ⟨(ad265.add ((x61_4).toNat * 7)).block, (ad265.add ((x61_4).toNat * 7)).off + 4, none⟩ = some (.int .i64 ((rd_T27 l0 x61_4).f2)) ∧ w'.cell? ⟨(ad265.add ((x61_4).toNat * 7)).block, (ad265.add ((x61_4).toNat * 7)).off + 5, none⟩ = some (.int .i64 ((rd_T27 l0 x61_4).f3)) ∧ w'.cell? ⟨(ad265.add ((x61_4).toNat * 7)).block, (ad265.add ((x61_4).toNat * 7)).off + 6, none⟩ = some (.bool ((rd_T27 l0 x61_4).f4))) (ds := []) #[false, false, false, false, false, false, false, false, false, false, false] (by kernel_rfl) rfl rfl ⟨(blk_cell BK245.out 0).trans rfl, (blk_cell BK245.out 1).trans rfl, (blk_cell BK245.out 2).trans rfl, ((HB.out.cell (World.block_lt_of_cell? w _ hw265_0)).trans hw265_0), ((HB.out.cell (World.block_lt_of_cell? w _ hw265_1)).trans hw265_1), ((HB.out.cell (World.block_lt_of_cell? w _ hw265_2)).trans hw265_2), ((HB.out.cell (World.block_lt_of_cell? w _ hw265_3)).trans hw265_3), ((HB.out.cell (World.block_lt_of_cell? w _ hw265_4)).trans hw265_4), ((HB.out.cell (World.block_lt_of_cell? w _ hw265_5)).trans hw265_5), ((HB.out.cell (World.block_lt_of_cell? w _ hw265_6)).trans hw265_6)⟩ (fun hHeld => ?_); refine with_tabW metrolablaw47_GaugeKeeps.tab18 metrolablaw47_GaugeKeeps.bits18 (fun HT_ HW_ => ?_)
                                              generalize wc.drew = w57 at HO_7 HO_38 HO_59 BK244 BK245 BK264 HB hx265_0 hx265_1 hx265_2 hx265_3 hx265_4 hx265_5 hx265_6 hHeld ⊢
                                              refine pure_ (i := 0) (N := some 79) (v := ?_) (a' := ?_) #[true, false, false, false, false, false, false, false, false, false, false] rfl rfl (any_of HT_.out (by kernel_rfl)) (fun _ _ _ h => h) (Or.inl ⟨by rfl, ?_⟩) ?_ ?_
                                              rotate_left
                                              · intro w'
                                                go_simp
                                                with_reducible rfl
                                              rotate_left
                                              · simp only [Act.put, List.setIfInBounds_toArray, List.set_cons_zero, List.set_cons_succ, i64_w, i32_w]
                                                rfl
                                              refine pure_ (i := 1) (N := some 80) (v := ?_) (a' := ?_) #[true, true, false, false, false, false, false, false, false, false, false] rfl rfl (any_of HT_.out (by kernel_rfl)) (fun _ _ _ h => h) (Or.inl ⟨by rfl, ?_⟩) ?_ ?_
                                              rotate_left
                                              · intro w'
                                                go_simp
                                                with_reducible rfl
                                              rotate_left
                                              · simp only [Act.put, List.setIfInBounds_toArray, List.set_cons_zero, List.set_cons_succ, i64_w, i32_w]
                                                rfl
                                              refine pure_ (i := 2) (N := some 81) (v := ?_) (a' := ?_) #[true, true, true, false, false, false, false, false, false, false, false] rfl rfl (any_of HT_.out (by kernel_rfl)) (fun _ _ _ h => h) (Or.inl ⟨by rfl, ?_⟩) ?_ ?_
                                              rotate_left
                                              · intro w'
                                                go_simp
                                                with_reducible rfl
                                              rotate_left
                                              · simp only [Act.put, List.setIfInBounds_toArray, List.set_cons_zero, List.set_cons_succ, i64_w, i32_w]
                                                rfl
                                              refine take_ (i := 3) (N := some 82) (v := ?_) (a' := ?_) #[true, true, true, true, false, false, false, false, false, false, false] rfl rfl (take_ofW HT_.out HW_.out (by kernel_rfl)) (fun _ _ _ h => h) (Or.inl ⟨by rfl, ?_⟩) hHeld ?_ ?_
                                              rotate_left
                                              · rintro w' ⟨s0, s1, s2, s3, s4, s5, s6, s7, s8, s9⟩
                                                go_simp
                                                with_reducible rfl
                                              rotate_left
                                              · simp only [Act.put, List.setIfInBounds_toArray, List.set_cons_zero, List.set_cons_succ, i64_w, i32_w]
                                                rfl
                                              refine take_ (i := 4) (N := some 83) (v := ?_) (a' := ?_) #[true, true, true, true, true, false, false, false, false, false, false] rfl rfl (take_ofW HT_.out HW_.out (by kernel_rfl)) (fun _ _ _ h => h) (Or.inl ⟨by rfl, ?_⟩) hHeld ?_ ?_
                                              rotate_left
                                              · rintro w' ⟨s0, s1, s2, s3, s4, s5, s6, s7, s8, s9⟩
                                                go_simp
                                                with_reducible rfl
                                              rotate_left
                                              · simp only [Act.put, List.setIfInBounds_toArray, List.set_cons_zero, List.set_cons_succ, i64_w, i32_w]
                                                rfl
                                              refine one_ (i := 5) (N := some 84) #[true, true, true, true, true, true, false, false, false, false, false] rfl rfl (one_of HT_.out (by kernel_rfl)) (by decide) (fun K hK => ?_)
                                              refine goes_ Tryd.func43 (by kernel_rfl) rfl #[.agg #[.int .i64 ((rd_T27 l0 x61_4).f0.f0), .int .i64 ((rd_T27 l0 x61_4).f0.f1), .int .i64 ((rd_T27 l0 x61_4).f1.f0), .int .i64 ((rd_T27 l0 x61_4).f1.f1), .int .i64 ((rd_T27 l0 x61_4).f2), .int .i64 ((rd_T27 l0 x61_4).f3), .bool ((rd_T27 l0 x61_4).f4)], .agg #[.int .i64 a2_0, .int .i64 a2_1, .int .i64 a2_2]] (by rfl) rfl rfl (by (try simp only [List.map_toArray, List.map_cons, List.map_nil]); first | done | rfl | (simp only [List.length_drop, List.length_take]; rfl)) ?_
                                              with_reducible refine (bonus_Distance.calls kj37 ((rd_T27 l0 x61_4).f0.f0) ((rd_T27 l0 x61_4).f0.f1) ((rd_T27 l0 x61_4).f1.f0) ((rd_T27 l0 x61_4).f1.f1) ((rd_T27 l0 x61_4).f2) ((rd_T27 l0 x61_4).f3) ((rd_T27 l0 x61_4).f4) a2_0 a2_1 a2_2 t266 t267 _ A54.out).mono ?_
                                              rintro e w58 ⟨rfl, hb⟩
                                              refine ⟨_, rfl, ?_⟩
                                              have n0_ := Aside0.mk (Kd.R_below (by (with_reducible repeat (first | apply Kd.R_alloc | apply Kd.R_drewN | apply Kd.R_drew)); exact HO_7.out) hb)
                                              have n1_ := Aside0.mk (Kd.R_below (by (with_reducible repeat (first | apply Kd.R_alloc | apply Kd.R_drewN | apply Kd.R_drew)); exact HO_38.out) hb)
                                              have n2_ := Aside0.mk (Kd.R_below (by (with_reducible repeat (first | apply Kd.R_alloc | apply Kd.R_drewN | apply Kd.R_drew)); exact HO_59.out) hb)
                                              have n3_ := Aside0.mk (blk_below (g := gb244) (o := .cells #[.int .i64 a1_0, .int .i64 a1_1] 44 (0, 0)) (by (with_reducible repeat (first | refine blk_drewN ?_ _ | refine blk_drew ?_ | refine blk_alloc ?_ _)); exact BK244.out) hb)
                                              have n4_ := Aside0.mk (blk_below (g := gb245) (o := .cells #[.int .i64 a2_0, .int .i64 a2_1, .int .i64 a2_2] 68 (0, 0)) (by (with_reducible repeat (first | refine blk_drewN ?_ _ | refine blk_drew ?_ | refine blk_alloc ?_ _)); exact BK245.out) hb)
                                              have n5_ := Aside0.mk (blk_below (g := gb264) (o := .cells #[.int .i64 ((rd_T56 t259 x61_4).f0.f0), .int .i64 ((rd_T56 t259 x61_4).f0.f1), .bool ((rd_T56 t259 x61_4).f1), .int .i64 ((rd_T56 t259 x61_4).f2)] 56 (0, 0)) (by (with_reducible repeat (first | refine blk_drewN ?_ _ | refine blk_drew ?_ | refine blk_alloc ?_ _)); exact BK264.out) hb)
                                              have n6_ := Aside0.mk (below_step (by repeat (first | (with_reducible first | exact HB.out | apply below_alloc | apply pw_below_drewN | apply below_drew1 | refine below_set ?_ GE244.out | refine below_set ?_ GE245.out | refine below_set ?_ GE264.out) | exact HB.out)) hb)
                                              clear HO_7
                                              clear HO_38
                                              clear HO_59
                                              clear BK244
                                              clear BK245
                                              clear BK264
                                              clear HB
                                              have HO_7 := n0_
                                              have HO_38 := n1_
                                              have HO_59 := n2_
                                              have BK244 := n3_
                                              have BK245 := n4_
                                              have BK264 := n5_
                                              have HB := n6_
                                              clear n0_ n1_ n2_ n3_ n4_ n5_ n6_
                                              (try clear hb)
                                              (try clear hb2)
                                              (try clear hk)
                                              (try clear hi)
                                              refine hK.out _ _ ⟨(blk_cell BK245.out 0).trans rfl, (blk_cell BK245.out 1).trans rfl, (blk_cell BK245.out 2).trans rfl, ((HB.out.cell (World.block_lt_of_cell? w _ hw265_0)).trans hw265_0), ((HB.out.cell (World.block_lt_of_cell? w _ hw265_1)).trans hw265_1), ((HB.out.cell (World.block_lt_of_cell? w _ hw265_2)).trans hw265_2), ((HB.out.cell (World.block_lt_of_cell? w _ hw265_3)).trans hw265_3), ((HB.out.cell (World.block_lt_of_cell? w _ hw265_4)).trans hw265_4), ((HB.out.cell (World.block_lt_of_cell? w _ hw265_5)).trans hw265_5), ((HB.out.cell (World.block_lt_of_cell? w _ hw265_6)).trans hw265_6)⟩ (fun hHeld => ?_)
                                              clear hK K
                                              refine norm_ (a' := ?_) ?_ ?_
                                              rotate_left
                                              · show Act.put _ (some 84) _ = _
                                                simp only [Act.put, List.setIfInBounds_toArray, List.set_cons_zero, List.set_cons_succ, i64_w, i32_w]
                                                rfl
                                              refine pure_ (i := 6) (N := some 78) (v := ?_) (a' := ?_) #[true, true, true, true, true, true, true, false, false, false, false] rfl rfl (any_of HT_.out (by kernel_rfl)) (fun _ _ _ h => h) (Or.inl ⟨by rfl, ?_⟩) ?_ ?_
                                              rotate_left
                                              · intro w'
                                                go_simp
                                                with_reducible rfl
                                              rotate_left
                                              · simp only [Act.put, List.setIfInBounds_toArray, List.set_cons_zero, List.set_cons_succ, i64_w, i32_w]
                                                rfl
                                              refine pure_ (i := 7) (N := some 85) (v := ?_) (a' := ?_) #[true, true, true, true, true, true, true, true, false, false, false] rfl rfl (any_of HT_.out (by kernel_rfl)) (fun _ _ _ h => h) (Or.inl ⟨by rfl, ?_⟩) ?_ ?_
                                              rotate_left
                                              · intro w'
                                                go_simp
                                                with_reducible rfl
                                              rotate_left
                                              · simp only [Act.put, List.setIfInBounds_toArray, List.set_cons_zero, List.set_cons_succ, i64_w, i32_w]
                                                rfl
                                              refine pure_ (i := 8) (N := some 86) (v := ?_) (a' := ?_) #[true, true, true, true, true, true, true, true, true, false, false] rfl rfl (any_of HT_.out (by kernel_rfl)) (fun _ _ _ h => h) (Or.inl ⟨by rfl, ?_⟩) ?_ ?_
                                              rotate_left
                                              · intro w'
                                                go_simp
                                                with_reducible rfl
                                              rotate_left
                                              · simp only [Act.put, List.setIfInBounds_toArray, List.set_cons_zero, List.set_cons_succ, i64_w, i32_w]
                                                rfl
                                              refine pure_ (i := 9) (N := some 16) (v := ?_) (a' := ?_) #[true, true, true, true, true, true, true, true, true, true, false] rfl rfl (any_of HT_.out (by kernel_rfl)) (fun _ _ _ h => h) (Or.inl ⟨by rfl, ?_⟩) ?_ ?_
                                              rotate_left
                                              · intro w'
                                                go_simp
                                                with_reducible rfl
                                              rotate_left
                                              · simp only [Act.put, List.setIfInBounds_toArray, List.set_cons_zero, List.set_cons_succ, i64_w, i32_w]
                                                rfl
                                              refine pure_ (i := 10) (N := some 17) (v := ?_) (a' := ?_) #[true, true, true, true, true, true, true, true, true, true, true] rfl rfl (any_of HT_.out (by kernel_rfl)) (fun _ _ _ h => h) (Or.inl ⟨by rfl, ?_⟩) ?_ ?_
                                              rotate_left
                                              · intro w'
                                                go_simp
                                                with_reducible rfl
                                              rotate_left
                                              · simp only [Act.put, List.setIfInBounds_toArray, List.set_cons_zero, List.set_cons_succ, i64_w, i32_w]
                                                rfl
                                              refine done_ (done_of HT_.out (by kernel_rfl)) ?_
                                              go_upto_region 21 with (fail)
                                              go_cut [108] (fun v108 wc => ∃ (kq : Nat) (x108_55 : Bool), v108 = .bool x108_55 ∧ Aside0 (metrolablaw47_GaugeKeeps.j5 kq l0 t249 x61_4 y254 (y254.length : Int) x40_2 t259 (t259.length : Int) x61_4 x108_55 a2_0 a2_1 a2_2 = some r) ∧ Aside0 (kq ≤ kj37) ∧ Aside0 (Kd.R k104 104 wc w.heap.size (fun _ => True) (.slice Ao29 t249.length co29) t249) ∧ Aside0 (Kd.R Kd.bool 4 wc w.heap.size (fun _ => True) (.slice (some ad258) y254.length co23) y254) ∧ Aside0 (Kd.R k56 56 wc w.heap.size (fun k_ => k_ ≠ gb264) (.slice (some ad263) t259.length co34) t259) ∧ Aside0 (wc.heap[gb244]? = some (.cells #[.int .i64 a1_0, .int .i64 a1_1] 44 (0, 0))) ∧ Aside0 (wc.heap[gb245]? = some (.cells #[.int .i64 a2_0, .int .i64 a2_1, .int .i64 a2_2] 68 (0, 0))) ∧ Aside0 (wc.heap[gb264]? = some (.cells #[.int .i64 ((rd_T56 t259 x61_4).f0.f0), .int .i64 ((rd_T56 t259 x61_4).f0.f1), .bool ((rd_T56 t259 x61_4).f1), .int .i64 ((rd_T56 t259 x61_4).f2)] 56 (0, 0))) ∧ Aside0 (Below w.heap.size w wc))
                                              case first =>
                                                have H := HC56.out
                                                clear HC56
                                                replace H := Option.bind_eq_some_iff.mp H
                                                obtain ⟨t269, A590, H⟩ := H
                                                replace H : (if t269 = true then (if x15_37 < 0 then (metrolablaw47_GaugeKeeps.j5 kj37 l0 t249 x61_4 y254 (y254.length : Int) x40_2 t259 (t259.length : Int) x61_4 true a2_0 a2_1 a2_2) else (metrolablaw47_GaugeKeeps.j5 kj37 l0 t249 x61_4 y254 (y254.length : Int) x40_2 t259 (t259.length : Int) x61_4 (decide ((wrap64 (4 * t266)) > (wrap64 (x15_37 * x15_37)))) a2_0 a2_1 a2_2)) else (metrolablaw47_GaugeKeeps.j5 kj37 l0 t249 x61_4 y254 (y254.length : Int) x40_2 t259 (t259.length : Int) x61_4 true a2_0 a2_1 a2_2)) = some r := H
                                                have A59 := Aside0.mk A590
                                                clear A590
                                                by_cases c60 : t269 = true
                                                · subst c60
                                                  have H1 : (if x15_37 < 0 then (metrolablaw47_GaugeKeeps.j5 kj37 l0 t249 x61_4 y254 (y254.length : Int) x40_2 t259 (t259.length : Int) x61_4 true a2_0 a2_1 a2_2) else (metrolablaw47_GaugeKeeps.j5 kj37 l0 t249 x61_4 y254 (y254.length : Int) x40_2 t259 (t259.length : Int) x61_4 (decide ((wrap64 (4 * t266)) > (wrap64 (x15_37 * x15_37)))) a2_0 a2_1 a2_2)) = some r := by rw [if_pos rfl] at H; exact H
                                                  clear H
                                                  have H := H1
                                                  clear H1
                                                  by_cases c61 : x15_37 < 0
                                                  · rw [if_pos c61] at H
                                                    have c61b0 : decide (x15_37 < 0) = true := decide_eq_true c61
                                                    clear c61
                                                    (first | rw [c61b0] | (simp only [i64_w, i32_w]; rw [c61b0]) | skip)
                                                    have H' := Aside0.mk H
                                                    clear H
                                                    try go_wp2
                                                    have n0_ := Aside0.mk (Kd.R_drew HO_7.out)
                                                    have n1_ := Aside0.mk (Kd.R_drew HO_38.out)
                                                    have n2_ := Aside0.mk (Kd.R_drew HO_59.out)
                                                    have n3_ := Aside0.mk (blk_drew BK244.out)
                                                    have n4_ := Aside0.mk (blk_drew BK245.out)
                                                    have n5_ := Aside0.mk (blk_drew BK264.out)
                                                    have n6_ := Aside0.mk (below_drew1 HB.out)
                                                    clear HO_7
                                                    clear HO_38
                                                    clear HO_59
                                                    clear BK244
                                                    clear BK245
                                                    clear BK264
                                                    clear HB
                                                    have HO_7 := n0_
                                                    have HO_38 := n1_
                                                    have HO_59 := n2_
                                                    have BK244 := n3_
                                                    have BK245 := n4_
                                                    have BK264 := n5_
                                                    have HB := n6_
                                                    clear n0_ n1_ n2_ n3_ n4_ n5_ n6_
                                                    have p268 : 0 ≤ (x61_4 : Int) := of_decide_eq_true (by first | (with_reducible assumption) | assumption)
                                                    have q268 : x61_4 < (l0.length : Int) := of_decide_eq_true (by first | (with_reducible assumption) | assumption)
                                                    obtain ⟨ad268, e268, hx268_0, hx268_1, hx268_2, hx268_3, hx268_4, hx268_5, hx268_6⟩ := at_T27 HR0.out x61_4 p268 q268
                                                    have hw268_6 := hx268_6
                                                    have hw268_5 := hx268_5
                                                    have hw268_4 := hx268_4
                                                    have hw268_3 := hx268_3
                                                    have hw268_2 := hx268_2
                                                    have hw268_1 := hx268_1
                                                    have hw268_0 := hx268_0
                                                    obtain rfl : ad265 = ad268 := (by injection e268)
                                                    replace hx268_0 := (HB.out.cell (World.block_lt_of_cell? w _ hx268_0)).trans hx268_0
                                                    replace hx268_1 := (HB.out.cell (World.block_lt_of_cell? w _ hx268_1)).trans hx268_1
                                                    replace hx268_2 := (HB.out.cell (World.block_lt_of_cell? w _ hx268_2)).trans hx268_2
                                                    replace hx268_3 := (HB.out.cell (World.block_lt_of_cell? w _ hx268_3)).trans hx268_3
                                                    replace hx268_4 := (HB.out.cell (World.block_lt_of_cell? w _ hx268_4)).trans hx268_4
                                                    replace hx268_5 := (HB.out.cell (World.block_lt_of_cell? w _ hx268_5)).trans hx268_5
                                                    replace hx268_6 := (HB.out.cell (World.block_lt_of_cell? w _ hx268_6)).trans hx268_6
                                                    replace p268 := eq_true p268
                                                    replace q268 := eq_true q268
                                                    refine start_ (n := 20) (S := fun w' => w'.cell? ⟨gb245, 0, none⟩ = some (.int .i64 a2_0) ∧ w'.cell? ⟨gb245, 1, none⟩ = some (.int .i64 a2_1) ∧ w'.cell? ⟨gb245, 2, none⟩ = some (.int .i64 a2_2) ∧ w'.cell? (ad265.add ((x61_4).toNat * 7)) = some (.int .i64 ((rd_T27 l0 x61_4).f0.f0)) ∧ w'.cell? ⟨(ad265.add ((x61_4).toNat * 7)).block, (ad265.add ((x61_4).toNat * 7)).off + 1, none⟩ = some (.int .i64 ((rd_T27 l0 x61_4).f0.f1)) ∧ w'.cell? ⟨(ad265.add ((x61_4).toNat * 7)).block, (ad265.add ((x61_4).toNat * 7)).off + 2, none⟩ = some (.int .i64 ((rd_T27 l0 x61_4).f1.f0)) ∧ w'.cell? ⟨(ad265.add ((x61_4).toNat * 7)).block, (ad265.add ((x61_4).toNat * 7)).off + 3, none⟩ = some (.int .i64 ((rd_T27 l0 x61_4).f1.f1)) ∧ w'.cell? ⟨(ad265.add ((x61_4).toNat * 7)).block, (ad265.add ((x61_4).toNat * 7)).off + 4, none⟩ = some (.int .i64 ((rd_T27 l0 x61_4).f2)) ∧ w'.cell? ⟨(ad265.add ((x61_4).toNat * 7)).block, (ad265.add ((x61_4).toNat * 7)).off + 5, none⟩ = some (.int .i64 ((rd_T27 l0 x61_4).f3)) ∧ w'.cell? ⟨(ad265.add ((x61_4).toNat * 7)).block, (ad265.add ((x61_4).toNat * 7)).off + 6, none⟩ = some (.bool ((rd_T27 l0 x61_4).f4))) (ds := []) #[false, false, false, false, false, false, false, false, false, false, false, false, false, false, false, false, false, false, false, false] (by kernel_rfl) rfl rfl ⟨(blk_cell BK245.out 0).trans rfl, (blk_cell BK245.out 1).trans rfl, (blk_cell BK245.out 2).trans rfl, ((HB.out.cell (World.block_lt_of_cell? w _ hw268_0)).trans hw268_0), ((HB.out.cell (World.block_lt_of_cell? w _ hw268_1)).trans hw268_1), ((HB.out.cell (World.block_lt_of_cell? w _ hw268_2)).trans hw268_2), ((HB.out.cell (World.block_lt_of_cell? w _ hw268_3)).trans hw268_3), ((HB.out.cell (World.block_lt_of_cell? w _ hw268_4)).trans hw268_4), ((HB.out.cell (World.block_lt_of_cell? w _ hw268_5)).trans hw268_5), ((HB.out.cell (World.block_lt_of_cell? w _ hw268_6)).trans hw268_6)⟩ (fun hHeld => ?_); refine with_tabW metrolablaw47_GaugeKeeps.tab21 metrolablaw47_GaugeKeeps.bits21 (fun HT_ HW_ => ?_)
                                                    generalize w58.drew = w62 at HO_7 HO_38 HO_59 BK244 BK245 BK264 HB hx268_0 hx268_1 hx268_2 hx268_3 hx268_4 hx268_5 hx268_6 hHeld ⊢
                                                    refine pure_ (i := 0) (N := some 89) (v := ?_) (a' := ?_) #[true, false, false, false, false, false, false, false, false, false, false, false, false, false, false, false, false, false, false, false] rfl rfl (any_of HT_.out (by kernel_rfl)) (fun _ _ _ h => h) (Or.inl ⟨by rfl, ?_⟩) ?_ ?_
                                                    rotate_left
                                                    · intro w'
                                                      go_simp
                                                      with_reducible rfl
                                                    rotate_left
                                                    · simp only [Act.put, List.setIfInBounds_toArray, List.set_cons_zero, List.set_cons_succ, i64_w, i32_w]
                                                      rfl
                                                    refine pure_ (i := 1) (N := some 90) (v := ?_) (a' := ?_) #[true, true, false, false, false, false, false, false, false, false, false, false, false, false, false, false, false, false, false, false] rfl rfl (any_of HT_.out (by kernel_rfl)) (fun _ _ _ h => h) (Or.inl ⟨by rfl, ?_⟩) ?_ ?_
                                                    rotate_left
                                                    · intro w'
                                                      go_simp
                                                      with_reducible rfl
                                                    rotate_left
                                                    · simp only [Act.put, List.setIfInBounds_toArray, List.set_cons_zero, List.set_cons_succ, i64_w, i32_w]
                                                      rfl
                                                    refine pure_ (i := 2) (N := some 91) (v := ?_) (a' := ?_) #[true, true, true, false, false, false, false, false, false, false, false, false, false, false, false, false, false, false, false, false] rfl rfl (any_of HT_.out (by kernel_rfl)) (fun _ _ _ h => h) (Or.inl ⟨by rfl, ?_⟩) ?_ ?_
                                                    rotate_left
                                                    · intro w'
                                                      go_simp
                                                      with_reducible rfl
                                                    rotate_left
                                                    · simp only [Act.put, List.setIfInBounds_toArray, List.set_cons_zero, List.set_cons_succ, i64_w, i32_w]
                                                      rfl
                                                    refine pure_ (i := 4) (N := some 93) (v := ?_) (a' := ?_) #[true, true, true, false, true, false, false, false, false, false, false, false, false, false, false, false, false, false, false, false] rfl rfl (any_of HT_.out (by kernel_rfl)) (fun _ _ _ h => h) (Or.inl ⟨by rfl, ?_⟩) ?_ ?_
                                                    rotate_left
                                                    · intro w'
                                                      go_simp
                                                      with_reducible rfl
                                                    rotate_left
                                                    · simp only [Act.put, List.setIfInBounds_toArray, List.set_cons_zero, List.set_cons_succ, i64_w, i32_w]
                                                      rfl
                                                    refine take_ (i := 3) (N := some 92) (v := ?_) (a' := ?_) #[true, true, true, true, true, false, false, false, false, false, false, false, false, false, false, false, false, false, false, false] rfl rfl (take_ofW HT_.out HW_.out (by kernel_rfl)) (fun _ _ _ h => h) (Or.inl ⟨by rfl, ?_⟩) hHeld ?_ ?_
                                                    rotate_left
                                                    · rintro w' ⟨s0, s1, s2, s3, s4, s5, s6, s7, s8, s9⟩
                                                      go_simp
                                                      with_reducible rfl
                                                    rotate_left
                                                    · simp only [Act.put, List.setIfInBounds_toArray, List.set_cons_zero, List.set_cons_succ, i64_w, i32_w]
                                                      rfl
                                                    refine take_ (i := 5) (N := some 94) (v := ?_) (a' := ?_) #[true, true, true, true, true, true, false, false, false, false, false, false, false, false, false, false, false, false, false, false] rfl rfl (take_ofW HT_.out HW_.out (by kernel_rfl)) (fun _ _ _ h => h) (Or.inl ⟨by rfl, ?_⟩) hHeld ?_ ?_
                                                    rotate_left
                                                    · rintro w' ⟨s0, s1, s2, s3, s4, s5, s6, s7, s8, s9⟩
                                                      go_simp
                                                      with_reducible rfl
                                                    rotate_left
                                                    · simp only [Act.put, List.setIfInBounds_toArray, List.set_cons_zero, List.set_cons_succ, i64_w, i32_w]
                                                      rfl
                                                    refine one_ (i := 6) (N := some 95) #[true, true, true, true, true, true, true, false, false, false, false, false, false, false, false, false, false, false, false, false] rfl rfl (one_of HT_.out (by kernel_rfl)) (by decide) (fun K hK => ?_)
                                                    refine goes_ Tryd.func44 (by kernel_rfl) rfl #[.agg #[.int .i64 ((rd_T27 l0 x61_4).f0.f0), .int .i64 ((rd_T27 l0 x61_4).f0.f1), .int .i64 ((rd_T27 l0 x61_4).f1.f0), .int .i64 ((rd_T27 l0 x61_4).f1.f1), .int .i64 ((rd_T27 l0 x61_4).f2), .int .i64 ((rd_T27 l0 x61_4).f3), .bool ((rd_T27 l0 x61_4).f4)], .int .i64 a2_2] (by rfl) rfl rfl (by (try simp only [List.map_toArray, List.map_cons, List.map_nil]); first | done | rfl | (simp only [List.length_drop, List.length_take]; rfl)) ?_
                                                    with_reducible refine (metrolabref44_Inside.calls ((rd_T27 l0 x61_4).f0.f0) ((rd_T27 l0 x61_4).f0.f1) ((rd_T27 l0 x61_4).f1.f0) ((rd_T27 l0 x61_4).f1.f1) ((rd_T27 l0 x61_4).f2) ((rd_T27 l0 x61_4).f3) ((rd_T27 l0 x61_4).f4) a2_2 true _ A59.out).mono ?_
                                                    rintro e w63 ⟨rfl, hb⟩
                                                    refine ⟨_, rfl, ?_⟩
                                                    have n0_ := Aside0.mk (Kd.R_below (by (with_reducible repeat (first | apply Kd.R_alloc | apply Kd.R_drewN | apply Kd.R_drew)); exact HO_7.out) hb)
                                                    have n1_ := Aside0.mk (Kd.R_below (by (with_reducible repeat (first | apply Kd.R_alloc | apply Kd.R_drewN | apply Kd.R_drew)); exact HO_38.out) hb)
                                                    have n2_ := Aside0.mk (Kd.R_below (by (with_reducible repeat (first | apply Kd.R_alloc | apply Kd.R_drewN | apply Kd.R_drew)); exact HO_59.out) hb)
                                                    have n3_ := Aside0.mk (blk_below (g := gb244) (o := .cells #[.int .i64 a1_0, .int .i64 a1_1] 44 (0, 0)) (by (with_reducible repeat (first | refine blk_drewN ?_ _ | refine blk_drew ?_ | refine blk_alloc ?_ _)); exact BK244.out) hb)
                                                    have n4_ := Aside0.mk (blk_below (g := gb245) (o := .cells #[.int .i64 a2_0, .int .i64 a2_1, .int .i64 a2_2] 68 (0, 0)) (by (with_reducible repeat (first | refine blk_drewN ?_ _ | refine blk_drew ?_ | refine blk_alloc ?_ _)); exact BK245.out) hb)
                                                    have n5_ := Aside0.mk (blk_below (g := gb264) (o := .cells #[.int .i64 ((rd_T56 t259 x61_4).f0.f0), .int .i64 ((rd_T56 t259 x61_4).f0.f1), .bool ((rd_T56 t259 x61_4).f1), .int .i64 ((rd_T56 t259 x61_4).f2)] 56 (0, 0)) (by (with_reducible repeat (first | refine blk_drewN ?_ _ | refine blk_drew ?_ | refine blk_alloc ?_ _)); exact BK264.out) hb)
                                                    have n6_ := Aside0.mk (below_step (by repeat (first | (with_reducible first | exact HB.out | apply below_alloc | apply pw_below_drewN | apply below_drew1 | refine below_set ?_ GE244.out | refine below_set ?_ GE245.out | refine below_set ?_ GE264.out) | exact HB.out)) hb)
                                                    clear HO_7
                                                    clear HO_38
                                                    clear HO_59
                                                    clear BK244
                                                    clear BK245
                                                    clear BK264
                                                    clear HB
                                                    have HO_7 := n0_
                                                    have HO_38 := n1_
                                                    have HO_59 := n2_
                                                    have BK244 := n3_
                                                    have BK245 := n4_
                                                    have BK264 := n5_
                                                    have HB := n6_
                                                    clear n0_ n1_ n2_ n3_ n4_ n5_ n6_
                                                    (try clear hb)
                                                    (try clear hb2)
                                                    (try clear hk)
                                                    (try clear hi)
                                                    refine hK.out _ _ ⟨(blk_cell BK245.out 0).trans rfl, (blk_cell BK245.out 1).trans rfl, (blk_cell BK245.out 2).trans rfl, ((HB.out.cell (World.block_lt_of_cell? w _ hw268_0)).trans hw268_0), ((HB.out.cell (World.block_lt_of_cell? w _ hw268_1)).trans hw268_1), ((HB.out.cell (World.block_lt_of_cell? w _ hw268_2)).trans hw268_2), ((HB.out.cell (World.block_lt_of_cell? w _ hw268_3)).trans hw268_3), ((HB.out.cell (World.block_lt_of_cell? w _ hw268_4)).trans hw268_4), ((HB.out.cell (World.block_lt_of_cell? w _ hw268_5)).trans hw268_5), ((HB.out.cell (World.block_lt_of_cell? w _ hw268_6)).trans hw268_6)⟩ (fun hHeld => ?_)
                                                    clear hK K
                                                    refine norm_ (a' := ?_) ?_ ?_
                                                    rotate_left
                                                    · show Act.put _ (some 95) _ = _
                                                      simp only [Act.put, List.setIfInBounds_toArray, List.set_cons_zero, List.set_cons_succ, i64_w, i32_w]
                                                      rfl
                                                    refine pure_ (i := 7) (N := some 96) (v := ?_) (a' := ?_) #[true, true, true, true, true, true, true, true, false, false, false, false, false, false, false, false, false, false, false, false] rfl rfl (any_of HT_.out (by kernel_rfl)) (fun _ _ _ h => h) (Or.inl ⟨by rfl, ?_⟩) ?_ ?_
                                                    rotate_left
                                                    · intro w'
                                                      go_simp
                                                      with_reducible rfl
                                                    rotate_left
                                                    · simp only [Act.put, List.setIfInBounds_toArray, List.set_cons_zero, List.set_cons_succ, i64_w, i32_w]
                                                      rfl
                                                    refine pure_ (i := 8) (N := some 97) (v := ?_) (a' := ?_) #[true, true, true, true, true, true, true, true, true, false, false, false, false, false, false, false, false, false, false, false] rfl rfl (any_of HT_.out (by kernel_rfl)) (fun _ _ _ h => h) (Or.inl ⟨by rfl, ?_⟩) ?_ ?_
                                                    rotate_left
                                                    · intro w'
                                                      go_simp
                                                      with_reducible rfl
                                                    rotate_left
                                                    · simp only [Act.put, List.setIfInBounds_toArray, List.set_cons_zero, List.set_cons_succ, i64_w, i32_w]
                                                      rfl
                                                    refine pure_ (i := 9) (N := some 98) (v := ?_) (a' := ?_) #[true, true, true, true, true, true, true, true, true, true, false, false, false, false, false, false, false, false, false, false] rfl rfl (any_of HT_.out (by kernel_rfl)) (fun _ _ _ h => h) (Or.inl ⟨by rfl, ?_⟩) ?_ ?_
                                                    rotate_left
                                                    · intro w'
                                                      go_simp
                                                      with_reducible rfl
                                                    rotate_left
                                                    · simp only [Act.put, List.setIfInBounds_toArray, List.set_cons_zero, List.set_cons_succ, i64_w, i32_w]
                                                      rfl
                                                    refine pure_ (i := 10) (N := some 99) (v := ?_) (a' := ?_) #[true, true, true, true, true, true, true, true, true, true, true, false, false, false, false, false, false, false, false, false] rfl rfl (any_of HT_.out (by kernel_rfl)) (fun _ _ _ h => h) (Or.inl ⟨by rfl, ?_⟩) ?_ ?_
                                                    rotate_left
                                                    · intro w'
                                                      go_simp
                                                      with_reducible rfl
                                                    rotate_left
                                                    · simp only [Act.put, List.setIfInBounds_toArray, List.set_cons_zero, List.set_cons_succ, i64_w, i32_w]
                                                      rfl
                                                    refine pure_ (i := 11) (N := some 100) (v := ?_) (a' := ?_) #[true, true, true, true, true, true, true, true, true, true, true, true, false, false, false, false, false, false, false, false] rfl rfl (any_of HT_.out (by kernel_rfl)) (fun _ _ _ h => h) (Or.inl ⟨by rfl, ?_⟩) ?_ ?_
                                                    rotate_left
                                                    · intro w'
                                                      go_simp
                                                      with_reducible rfl
                                                    rotate_left
                                                    · simp only [Act.put, List.setIfInBounds_toArray, List.set_cons_zero, List.set_cons_succ, i64_w, i32_w]
                                                      rfl
                                                    refine pure_ (i := 12) (N := some 101) (v := ?_) (a' := ?_) #[true, true, true, true, true, true, true, true, true, true, true, true, true, false, false, false, false, false, false, false] rfl rfl (any_of HT_.out (by kernel_rfl)) (fun _ _ _ h => h) (Or.inl ⟨by rfl, ?_⟩) ?_ ?_
                                                    rotate_left
                                                    · intro w'
                                                      go_simp
                                                      with_reducible rfl
                                                    rotate_left
                                                    · simp only [Act.put, List.setIfInBounds_toArray, List.set_cons_zero, List.set_cons_succ, i64_w, i32_w]
                                                      rfl
                                                    refine pure_ (i := 13) (N := some 102) (v := undef) (a' := ?_) #[true, true, true, true, true, true, true, true, true, true, true, true, true, true, false, false, false, false, false, false] rfl rfl (any_of HT_.out (by kernel_rfl)) (fun _ _ _ h => h) (Or.inr ⟨by rfl, rfl⟩) ?_ ?_
                                                    rotate_left
                                                    · simp only [Act.put, List.setIfInBounds_toArray, List.set_cons_zero, List.set_cons_succ, i64_w, i32_w]
                                                      rfl
                                                    refine pure_ (i := 14) (N := some 103) (v := undef) (a' := ?_) #[true, true, true, true, true, true, true, true, true, true, true, true, true, true, true, false, false, false, false, false] rfl rfl (any_of HT_.out (by kernel_rfl)) (fun _ _ _ h => h) (Or.inr ⟨by rfl, rfl⟩) ?_ ?_
                                                    rotate_left
                                                    · simp only [Act.put, List.setIfInBounds_toArray, List.set_cons_zero, List.set_cons_succ, i64_w, i32_w]
                                                      rfl
                                                    refine pure_ (i := 15) (N := some 104) (v := undef) (a' := ?_) #[true, true, true, true, true, true, true, true, true, true, true, true, true, true, true, true, false, false, false, false] rfl rfl (any_of HT_.out (by kernel_rfl)) (fun _ _ _ h => h) (Or.inr ⟨by rfl, rfl⟩) ?_ ?_
                                                    rotate_left
                                                    · simp only [Act.put, List.setIfInBounds_toArray, List.set_cons_zero, List.set_cons_succ, i64_w, i32_w]
                                                      rfl
                                                    refine pure_ (i := 16) (N := some 105) (v := undef) (a' := ?_) #[true, true, true, true, true, true, true, true, true, true, true, true, true, true, true, true, true, false, false, false] rfl rfl (any_of HT_.out (by kernel_rfl)) (fun _ _ _ h => h) (Or.inr ⟨by rfl, rfl⟩) ?_ ?_
                                                    rotate_left
                                                    · simp only [Act.put, List.setIfInBounds_toArray, List.set_cons_zero, List.set_cons_succ, i64_w, i32_w]
                                                      rfl
                                                    refine pure_ (i := 17) (N := some 106) (v := undef) (a' := ?_) #[true, true, true, true, true, true, true, true, true, true, true, true, true, true, true, true, true, true, false, false] rfl rfl (any_of HT_.out (by kernel_rfl)) (fun _ _ _ h => h) (Or.inr ⟨by rfl, rfl⟩) ?_ ?_
                                                    rotate_left
                                                    · simp only [Act.put, List.setIfInBounds_toArray, List.set_cons_zero, List.set_cons_succ, i64_w, i32_w]
                                                      rfl
                                                    refine pure_ (i := 18) (N := some 107) (v := undef) (a' := ?_) #[true, true, true, true, true, true, true, true, true, true, true, true, true, true, true, true, true, true, true, false] rfl rfl (any_of HT_.out (by kernel_rfl)) (fun _ _ _ h => h) (Or.inr ⟨by rfl, rfl⟩) ?_ ?_
                                                    rotate_left
                                                    · simp only [Act.put, List.setIfInBounds_toArray, List.set_cons_zero, List.set_cons_succ, i64_w, i32_w]
                                                      rfl
                                                    refine pure_ (i := 19) (N := some 108) (v := ?_) (a' := ?_) #[true, true, true, true, true, true, true, true, true, true, true, true, true, true, true, true, true, true, true, true] rfl rfl (any_of HT_.out (by kernel_rfl)) (fun _ _ _ h => h) (Or.inl ⟨by rfl, ?_⟩) ?_ ?_
                                                    rotate_left
                                                    · intro w'
                                                      go_simp
                                                      with_reducible rfl
                                                    rotate_left
                                                    · simp only [Act.put, List.setIfInBounds_toArray, List.set_cons_zero, List.set_cons_succ, i64_w, i32_w]
                                                      rfl
                                                    refine done_ (done_of HT_.out (by kernel_rfl)) ?_
                                                    try go_wp2
                                                    go_meet
                                                    case rel => exact ⟨_, (true), (by first | rfl | (simp; done) | (simp [*]; done)), H', ⟨by have := HJ3.out; have := HK2.out; have := HJ27.out; have := HK4.out; have := HJ37.out; first | omega | exact Nat.le_refl _⟩, ⟨by (with_reducible repeat (first | apply Kd.R_alloc | apply Kd.R_drewN | apply Kd.R_drew)); exact HO_7.out⟩, ⟨by (with_reducible repeat (first | apply Kd.R_alloc | apply Kd.R_drewN | apply Kd.R_drew)); exact HO_38.out⟩, ⟨by (with_reducible repeat (first | apply Kd.R_alloc | apply Kd.R_drewN | apply Kd.R_drew)); exact HO_59.out⟩, ⟨by (with_reducible repeat (first | refine blk_drewN ?_ _ | refine blk_drew ?_ | refine blk_alloc ?_ _)); exact BK244.out⟩, ⟨by (with_reducible repeat (first | refine blk_drewN ?_ _ | refine blk_drew ?_ | refine blk_alloc ?_ _)); exact BK245.out⟩, ⟨by (with_reducible repeat (first | refine blk_drewN ?_ _ | refine blk_drew ?_ | refine blk_alloc ?_ _)); exact BK264.out⟩, ⟨by repeat (first | (with_reducible first | exact HB.out | apply below_alloc | apply pw_below_drewN | apply below_drew1 | refine below_set ?_ GE244.out | refine below_set ?_ GE245.out | refine below_set ?_ GE264.out) | exact HB.out)⟩⟩
                                                  · rw [if_neg c61] at H
                                                    have c61b0 : decide (x15_37 < 0) = false := decide_eq_false c61
                                                    clear c61
                                                    (first | rw [c61b0] | (simp only [i64_w, i32_w]; rw [c61b0]) | skip)
                                                    have H' := Aside0.mk H
                                                    clear H
                                                    try go_wp2
                                                    have n0_ := Aside0.mk (Kd.R_drew HO_7.out)
                                                    have n1_ := Aside0.mk (Kd.R_drew HO_38.out)
                                                    have n2_ := Aside0.mk (Kd.R_drew HO_59.out)
                                                    have n3_ := Aside0.mk (blk_drew BK244.out)
                                                    have n4_ := Aside0.mk (blk_drew BK245.out)
                                                    have n5_ := Aside0.mk (blk_drew BK264.out)
                                                    have n6_ := Aside0.mk (below_drew1 HB.out)
                                                    clear HO_7
                                                    clear HO_38
                                                    clear HO_59
                                                    clear BK244
                                                    clear BK245
                                                    clear BK264
                                                    clear HB
                                                    have HO_7 := n0_
                                                    have HO_38 := n1_
                                                    have HO_59 := n2_
                                                    have BK244 := n3_
                                                    have BK245 := n4_
                                                    have BK264 := n5_
                                                    have HB := n6_
                                                    clear n0_ n1_ n2_ n3_ n4_ n5_ n6_
                                                    have p268 : 0 ≤ (x61_4 : Int) := of_decide_eq_true (by first | (with_reducible assumption) | assumption)
                                                    have q268 : x61_4 < (l0.length : Int) := of_decide_eq_true (by first | (with_reducible assumption) | assumption)
                                                    obtain ⟨ad268, e268, hx268_0, hx268_1, hx268_2, hx268_3, hx268_4, hx268_5, hx268_6⟩ := at_T27 HR0.out x61_4 p268 q268
                                                    have hw268_6 := hx268_6
                                                    have hw268_5 := hx268_5
                                                    have hw268_4 := hx268_4
                                                    have hw268_3 := hx268_3
                                                    have hw268_2 := hx268_2
                                                    have hw268_1 := hx268_1
                                                    have hw268_0 := hx268_0
                                                    obtain rfl : ad265 = ad268 := (by injection e268)
                                                    replace hx268_0 := (HB.out.cell (World.block_lt_of_cell? w _ hx268_0)).trans hx268_0
                                                    replace hx268_1 := (HB.out.cell (World.block_lt_of_cell? w _ hx268_1)).trans hx268_1
                                                    replace hx268_2 := (HB.out.cell (World.block_lt_of_cell? w _ hx268_2)).trans hx268_2
                                                    replace hx268_3 := (HB.out.cell (World.block_lt_of_cell? w _ hx268_3)).trans hx268_3
                                                    replace hx268_4 := (HB.out.cell (World.block_lt_of_cell? w _ hx268_4)).trans hx268_4
                                                    replace hx268_5 := (HB.out.cell (World.block_lt_of_cell? w _ hx268_5)).trans hx268_5
                                                    replace hx268_6 := (HB.out.cell (World.block_lt_of_cell? w _ hx268_6)).trans hx268_6
                                                    replace p268 := eq_true p268
                                                    replace q268 := eq_true q268
                                                    refine start_ (n := 20) (S := fun w' => w'.cell? ⟨gb245, 0, none⟩ = some (.int .i64 a2_0) ∧ w'.cell? ⟨gb245, 1, none⟩ = some (.int .i64 a2_1) ∧ w'.cell? ⟨gb245, 2, none⟩ = some (.int .i64 a2_2) ∧ w'.cell? (ad265.add ((x61_4).toNat * 7)) = some (.int .i64 ((rd_T27 l0 x61_4).f0.f0)) ∧ w'.cell? ⟨(ad265.add ((x61_4).toNat * 7)).block, (ad265.add ((x61_4).toNat * 7)).off + 1, none⟩ = some (.int .i64 ((rd_T27 l0 x61_4).f0.f1)) ∧ w'.cell? ⟨(ad265.add ((x61_4).toNat * 7)).block, (ad265.add ((x61_4).toNat * 7)).off + 2, none⟩ = some (.int .i64 ((rd_T27 l0 x61_4).f1.f0)) ∧ w'.cell? ⟨(ad265.add ((x61_4).toNat * 7)).block, (ad265.add ((x61_4).toNat * 7)).off + 3, none⟩ = some (.int .i64 ((rd_T27 l0 x61_4).f1.f1)) ∧ w'.cell? ⟨(ad265.add ((x61_4).toNat * 7)).block, (ad265.add ((x61_4).toNat * 7)).off + 4, none⟩ = some (.int .i64 ((rd_T27 l0 x61_4).f2)) ∧ w'.cell? ⟨(ad265.add ((x61_4).toNat * 7)).block, (ad265.add ((x61_4).toNat * 7)).off + 5, none⟩ = some (.int .i64 ((rd_T27 l0 x61_4).f3)) ∧ w'.cell? ⟨(ad265.add ((x61_4).toNat * 7)).block, (ad265.add ((x61_4).toNat * 7)).off + 6, none⟩ = some (.bool ((rd_T27 l0 x61_4).f4))) (ds := []) #[false, false, false, false, false, false, false, false, false, false, false, false, false, false, false, false, false, false, false, false] (by kernel_rfl) rfl rfl ⟨(blk_cell BK245.out 0).trans rfl, (blk_cell BK245.out 1).trans rfl, (blk_cell BK245.out 2).trans rfl, ((HB.out.cell (World.block_lt_of_cell? w _ hw268_0)).trans hw268_0), ((HB.out.cell (World.block_lt_of_cell? w _ hw268_1)).trans hw268_1), ((HB.out.cell (World.block_lt_of_cell? w _ hw268_2)).trans hw268_2), ((HB.out.cell (World.block_lt_of_cell? w _ hw268_3)).trans hw268_3), ((HB.out.cell (World.block_lt_of_cell? w _ hw268_4)).trans hw268_4), ((HB.out.cell (World.block_lt_of_cell? w _ hw268_5)).trans hw268_5), ((HB.out.cell (World.block_lt_of_cell? w _ hw268_6)).trans hw268_6)⟩ (fun hHeld => ?_); refine with_tabW metrolablaw47_GaugeKeeps.tab21 metrolablaw47_GaugeKeeps.bits21 (fun HT_ HW_ => ?_)
                                                    generalize w58.drew = w64 at HO_7 HO_38 HO_59 BK244 BK245 BK264 HB hx268_0 hx268_1 hx268_2 hx268_3 hx268_4 hx268_5 hx268_6 hHeld ⊢
                                                    refine pure_ (i := 0) (N := some 89) (v := ?_) (a' := ?_) #[true, false, false, false, false, false, false, false, false, false, false, false, false, false, false, false, false, false, false, false] rfl rfl (any_of HT_.out (by kernel_rfl)) (fun _ _ _ h => h) (Or.inl ⟨by rfl, ?_⟩) ?_ ?_
                                                    rotate_left
                                                    · intro w'
                                                      go_simp
                                                      with_reducible rfl
                                                    rotate_left
                                                    · simp only [Act.put, List.setIfInBounds_toArray, List.set_cons_zero, List.set_cons_succ, i64_w, i32_w]
                                                      rfl
                                                    refine pure_ (i := 1) (N := some 90) (v := ?_) (a' := ?_) #[true, true, false, false, false, false, false, false, false, false, false, false, false, false, false, false, false, false, false, false] rfl rfl (any_of HT_.out (by kernel_rfl)) (fun _ _ _ h => h) (Or.inl ⟨by rfl, ?_⟩) ?_ ?_
                                                    rotate_left
                                                    · intro w'
                                                      go_simp
                                                      with_reducible rfl
                                                    rotate_left
                                                    · simp only [Act.put, List.setIfInBounds_toArray, List.set_cons_zero, List.set_cons_succ, i64_w, i32_w]
                                                      rfl
                                                    refine pure_ (i := 2) (N := some 91) (v := ?_) (a' := ?_) #[true, true, true, false, false, false, false, false, false, false, false, false, false, false, false, false, false, false, false, false] rfl rfl (any_of HT_.out (by kernel_rfl)) (fun _ _ _ h => h) (Or.inl ⟨by rfl, ?_⟩) ?_ ?_
                                                    rotate_left
                                                    · intro w'
                                                      go_simp
                                                      with_reducible rfl
                                                    rotate_left
                                                    · simp only [Act.put, List.setIfInBounds_toArray, List.set_cons_zero, List.set_cons_succ, i64_w, i32_w]
                                                      rfl
                                                    refine pure_ (i := 4) (N := some 93) (v := ?_) (a' := ?_) #[true, true, true, false, true, false, false, false, false, false, false, false, false, false, false, false, false, false, false, false] rfl rfl (any_of HT_.out (by kernel_rfl)) (fun _ _ _ h => h) (Or.inl ⟨by rfl, ?_⟩) ?_ ?_
                                                    rotate_left
                                                    · intro w'
                                                      go_simp
                                                      with_reducible rfl
                                                    rotate_left
                                                    · simp only [Act.put, List.setIfInBounds_toArray, List.set_cons_zero, List.set_cons_succ, i64_w, i32_w]
                                                      rfl
                                                    refine take_ (i := 3) (N := some 92) (v := ?_) (a' := ?_) #[true, true, true, true, true, false, false, false, false, false, false, false, false, false, false, false, false, false, false, false] rfl rfl (take_ofW HT_.out HW_.out (by kernel_rfl)) (fun _ _ _ h => h) (Or.inl ⟨by rfl, ?_⟩) hHeld ?_ ?_
                                                    rotate_left
                                                    · rintro w' ⟨s0, s1, s2, s3, s4, s5, s6, s7, s8, s9⟩
                                                      go_simp
                                                      with_reducible rfl
                                                    rotate_left
                                                    · simp only [Act.put, List.setIfInBounds_toArray, List.set_cons_zero, List.set_cons_succ, i64_w, i32_w]
                                                      rfl
                                                    refine take_ (i := 5) (N := some 94) (v := ?_) (a' := ?_) #[true, true, true, true, true, true, false, false, false, false, false, false, false, false, false, false, false, false, false, false] rfl rfl (take_ofW HT_.out HW_.out (by kernel_rfl)) (fun _ _ _ h => h) (Or.inl ⟨by rfl, ?_⟩) hHeld ?_ ?_
                                                    rotate_left
                                                    · rintro w' ⟨s0, s1, s2, s3, s4, s5, s6, s7, s8, s9⟩
                                                      go_simp
                                                      with_reducible rfl
                                                    rotate_left
                                                    · simp only [Act.put, List.setIfInBounds_toArray, List.set_cons_zero, List.set_cons_succ, i64_w, i32_w]
                                                      rfl
                                                    refine one_ (i := 6) (N := some 95) #[true, true, true, true, true, true, true, false, false, false, false, false, false, false, false, false, false, false, false, false] rfl rfl (one_of HT_.out (by kernel_rfl)) (by decide) (fun K hK => ?_)
                                                    refine goes_ Tryd.func44 (by kernel_rfl) rfl #[.agg #[.int .i64 ((rd_T27 l0 x61_4).f0.f0), .int .i64 ((rd_T27 l0 x61_4).f0.f1), .int .i64 ((rd_T27 l0 x61_4).f1.f0), .int .i64 ((rd_T27 l0 x61_4).f1.f1), .int .i64 ((rd_T27 l0 x61_4).f2), .int .i64 ((rd_T27 l0 x61_4).f3), .bool ((rd_T27 l0 x61_4).f4)], .int .i64 a2_2] (by rfl) rfl rfl (by (try simp only [List.map_toArray, List.map_cons, List.map_nil]); first | done | rfl | (simp only [List.length_drop, List.length_take]; rfl)) ?_
                                                    with_reducible refine (metrolabref44_Inside.calls ((rd_T27 l0 x61_4).f0.f0) ((rd_T27 l0 x61_4).f0.f1) ((rd_T27 l0 x61_4).f1.f0) ((rd_T27 l0 x61_4).f1.f1) ((rd_T27 l0 x61_4).f2) ((rd_T27 l0 x61_4).f3) ((rd_T27 l0 x61_4).f4) a2_2 true _ A59.out).mono ?_
                                                    rintro e w65 ⟨rfl, hb⟩
                                                    refine ⟨_, rfl, ?_⟩
                                                    have n0_ := Aside0.mk (Kd.R_below (by (with_reducible repeat (first | apply Kd.R_alloc | apply Kd.R_drewN | apply Kd.R_drew)); exact HO_7.out) hb)
                                                    have n1_ := Aside0.mk (Kd.R_below (by (with_reducible repeat (first | apply Kd.R_alloc | apply Kd.R_drewN | apply Kd.R_drew)); exact HO_38.out) hb)
                                                    have n2_ := Aside0.mk (Kd.R_below (by (with_reducible repeat (first | apply Kd.R_alloc | apply Kd.R_drewN | apply Kd.R_drew)); exact HO_59.out) hb)
                                                    have n3_ := Aside0.mk (blk_below (g := gb244) (o := .cells #[.int .i64 a1_0, .int .i64 a1_1] 44 (0, 0)) (by (with_reducible repeat (first | refine blk_drewN ?_ _ | refine blk_drew ?_ | refine blk_alloc ?_ _)); exact BK244.out) hb)
                                                    have n4_ := Aside0.mk (blk_below (g := gb245) (o := .cells #[.int .i64 a2_0, .int .i64 a2_1, .int .i64 a2_2] 68 (0, 0)) (by (with_reducible repeat (first | refine blk_drewN ?_ _ | refine blk_drew ?_ | refine blk_alloc ?_ _)); exact BK245.out) hb)
                                                    have n5_ := Aside0.mk (blk_below (g := gb264) (o := .cells #[.int .i64 ((rd_T56 t259 x61_4).f0.f0), .int .i64 ((rd_T56 t259 x61_4).f0.f1), .bool ((rd_T56 t259 x61_4).f1), .int .i64 ((rd_T56 t259 x61_4).f2)] 56 (0, 0)) (by (with_reducible repeat (first | refine blk_drewN ?_ _ | refine blk_drew ?_ | refine blk_alloc ?_ _)); exact BK264.out) hb)
                                                    have n6_ := Aside0.mk (below_step (by repeat (first | (with_reducible first | exact HB.out | apply below_alloc | apply pw_below_drewN | apply below_drew1 | refine below_set ?_ GE244.out | refine below_set ?_ GE245.out | refine below_set ?_ GE264.out) | exact HB.out)) hb)
                                                    clear HO_7
                                                    clear HO_38
                                                    clear HO_59
                                                    clear BK244
                                                    clear BK245
                                                    clear BK264
                                                    clear HB
                                                    have HO_7 := n0_
                                                    have HO_38 := n1_
                                                    have HO_59 := n2_
                                                    have BK244 := n3_
                                                    have BK245 := n4_
                                                    have BK264 := n5_
                                                    have HB := n6_
                                                    clear n0_ n1_ n2_ n3_ n4_ n5_ n6_
                                                    (try clear hb)
                                                    (try clear hb2)
                                                    (try clear hk)
                                                    (try clear hi)
                                                    refine hK.out _ _ ⟨(blk_cell BK245.out 0).trans rfl, (blk_cell BK245.out 1).trans rfl, (blk_cell BK245.out 2).trans rfl, ((HB.out.cell (World.block_lt_of_cell? w _ hw268_0)).trans hw268_0), ((HB.out.cell (World.block_lt_of_cell? w _ hw268_1)).trans hw268_1), ((HB.out.cell (World.block_lt_of_cell? w _ hw268_2)).trans hw268_2), ((HB.out.cell (World.block_lt_of_cell? w _ hw268_3)).trans hw268_3), ((HB.out.cell (World.block_lt_of_cell? w _ hw268_4)).trans hw268_4), ((HB.out.cell (World.block_lt_of_cell? w _ hw268_5)).trans hw268_5), ((HB.out.cell (World.block_lt_of_cell? w _ hw268_6)).trans hw268_6)⟩ (fun hHeld => ?_)
                                                    clear hK K
                                                    refine norm_ (a' := ?_) ?_ ?_
                                                    rotate_left
                                                    · show Act.put _ (some 95) _ = _
                                                      simp only [Act.put, List.setIfInBounds_toArray, List.set_cons_zero, List.set_cons_succ, i64_w, i32_w]
                                                      rfl
                                                    refine pure_ (i := 7) (N := some 96) (v := ?_) (a' := ?_) #[true, true, true, true, true, true, true, true, false, false, false, false, false, false, false, false, false, false, false, false] rfl rfl (any_of HT_.out (by kernel_rfl)) (fun _ _ _ h => h) (Or.inl ⟨by rfl, ?_⟩) ?_ ?_
                                                    rotate_left
                                                    · intro w'
                                                      go_simp
                                                      with_reducible rfl
                                                    rotate_left
                                                    · simp only [Act.put, List.setIfInBounds_toArray, List.set_cons_zero, List.set_cons_succ, i64_w, i32_w]
                                                      rfl
                                                    refine pure_ (i := 8) (N := some 97) (v := ?_) (a' := ?_) #[true, true, true, true, true, true, true, true, true, false, false, false, false, false, false, false, false, false, false, false] rfl rfl (any_of HT_.out (by kernel_rfl)) (fun _ _ _ h => h) (Or.inl ⟨by rfl, ?_⟩) ?_ ?_
                                                    rotate_left
                                                    · intro w'
                                                      go_simp
                                                      with_reducible rfl
                                                    rotate_left
                                                    · simp only [Act.put, List.setIfInBounds_toArray, List.set_cons_zero, List.set_cons_succ, i64_w, i32_w]
                                                      rfl
                                                    refine pure_ (i := 9) (N := some 98) (v := ?_) (a' := ?_) #[true, true, true, true, true, true, true, true, true, true, false, false, false, false, false, false, false, false, false, false] rfl rfl (any_of HT_.out (by kernel_rfl)) (fun _ _ _ h => h) (Or.inl ⟨by rfl, ?_⟩) ?_ ?_
                                                    rotate_left
                                                    · intro w'
                                                      go_simp
                                                      with_reducible rfl
                                                    rotate_left
                                                    · simp only [Act.put, List.setIfInBounds_toArray, List.set_cons_zero, List.set_cons_succ, i64_w, i32_w]
                                                      rfl
                                                    refine pure_ (i := 10) (N := some 99) (v := ?_) (a' := ?_) #[true, true, true, true, true, true, true, true, true, true, true, false, false, false, false, false, false, false, false, false] rfl rfl (any_of HT_.out (by kernel_rfl)) (fun _ _ _ h => h) (Or.inl ⟨by rfl, ?_⟩) ?_ ?_
                                                    rotate_left
                                                    · intro w'
                                                      go_simp
                                                      with_reducible rfl
                                                    rotate_left
                                                    · simp only [Act.put, List.setIfInBounds_toArray, List.set_cons_zero, List.set_cons_succ, i64_w, i32_w]
                                                      rfl
                                                    refine pure_ (i := 11) (N := some 100) (v := ?_) (a' := ?_) #[true, true, true, true, true, true, true, true, true, true, true, true, false, false, false, false, false, false, false, false] rfl rfl (any_of HT_.out (by kernel_rfl)) (fun _ _ _ h => h) (Or.inl ⟨by rfl, ?_⟩) ?_ ?_
                                                    rotate_left
                                                    · intro w'
                                                      go_simp
                                                      with_reducible rfl
                                                    rotate_left
                                                    · simp only [Act.put, List.setIfInBounds_toArray, List.set_cons_zero, List.set_cons_succ, i64_w, i32_w]
                                                      rfl
                                                    refine pure_ (i := 12) (N := some 101) (v := ?_) (a' := ?_) #[true, true, true, true, true, true, true, true, true, true, true, true, true, false, false, false, false, false, false, false] rfl rfl (any_of HT_.out (by kernel_rfl)) (fun _ _ _ h => h) (Or.inl ⟨by rfl, ?_⟩) ?_ ?_
                                                    rotate_left
                                                    · intro w'
                                                      go_simp
                                                      with_reducible rfl
                                                    rotate_left
                                                    · simp only [Act.put, List.setIfInBounds_toArray, List.set_cons_zero, List.set_cons_succ, i64_w, i32_w]
                                                      rfl
                                                    refine pure_ (i := 13) (N := some 102) (v := ?_) (a' := ?_) #[true, true, true, true, true, true, true, true, true, true, true, true, true, true, false, false, false, false, false, false] rfl rfl (any_of HT_.out (by kernel_rfl)) (fun _ _ _ h => h) (Or.inl ⟨by rfl, ?_⟩) ?_ ?_
                                                    rotate_left
                                                    · intro w'
                                                      go_simp
                                                      with_reducible rfl
                                                    rotate_left
                                                    · simp only [Act.put, List.setIfInBounds_toArray, List.set_cons_zero, List.set_cons_succ, i64_w, i32_w]
                                                      rfl
                                                    refine pure_ (i := 14) (N := some 103) (v := ?_) (a' := ?_) #[true, true, true, true, true, true, true, true, true, true, true, true, true, true, true, false, false, false, false, false] rfl rfl (any_of HT_.out (by kernel_rfl)) (fun _ _ _ h => h) (Or.inl ⟨by rfl, ?_⟩) ?_ ?_
                                                    rotate_left
                                                    · intro w'
                                                      go_simp
                                                      with_reducible rfl
                                                    rotate_left
                                                    · simp only [Act.put, List.setIfInBounds_toArray, List.set_cons_zero, List.set_cons_succ, i64_w, i32_w]
                                                      rfl
                                                    refine pure_ (i := 15) (N := some 104) (v := ?_) (a' := ?_) #[true, true, true, true, true, true, true, true, true, true, true, true, true, true, true, true, false, false, false, false] rfl rfl (any_of HT_.out (by kernel_rfl)) (fun _ _ _ h => h) (Or.inl ⟨by rfl, ?_⟩) ?_ ?_
                                                    rotate_left
                                                    · intro w'
                                                      go_simp
                                                      with_reducible rfl
                                                    rotate_left
                                                    · simp only [Act.put, List.setIfInBounds_toArray, List.set_cons_zero, List.set_cons_succ, i64_w, i32_w]
                                                      rfl
                                                    refine pure_ (i := 16) (N := some 105) (v := ?_) (a' := ?_) #[true, true, true, true, true, true, true, true, true, true, true, true, true, true, true, true, true, false, false, false] rfl rfl (any_of HT_.out (by kernel_rfl)) (fun _ _ _ h => h) (Or.inl ⟨by rfl, ?_⟩) ?_ ?_
                                                    rotate_left
                                                    · intro w'
                                                      go_simp
                                                      with_reducible rfl
                                                    rotate_left
                                                    · simp only [Act.put, List.setIfInBounds_toArray, List.set_cons_zero, List.set_cons_succ, i64_w, i32_w]
                                                      rfl
                                                    refine pure_ (i := 17) (N := some 106) (v := ?_) (a' := ?_) #[true, true, true, true, true, true, true, true, true, true, true, true, true, true, true, true, true, true, false, false] rfl rfl (any_of HT_.out (by kernel_rfl)) (fun _ _ _ h => h) (Or.inl ⟨by rfl, ?_⟩) ?_ ?_
                                                    rotate_left
                                                    · intro w'
                                                      go_simp
                                                      with_reducible rfl
                                                    rotate_left
                                                    · simp only [Act.put, List.setIfInBounds_toArray, List.set_cons_zero, List.set_cons_succ, i64_w, i32_w]
                                                      rfl
                                                    refine pure_ (i := 18) (N := some 107) (v := ?_) (a' := ?_) #[true, true, true, true, true, true, true, true, true, true, true, true, true, true, true, true, true, true, true, false] rfl rfl (any_of HT_.out (by kernel_rfl)) (fun _ _ _ h => h) (Or.inl ⟨by rfl, ?_⟩) ?_ ?_
                                                    rotate_left
                                                    · intro w'
                                                      go_simp
                                                      with_reducible rfl
                                                    rotate_left
                                                    · simp only [Act.put, List.setIfInBounds_toArray, List.set_cons_zero, List.set_cons_succ, i64_w, i32_w]
                                                      rfl
                                                    refine pure_ (i := 19) (N := some 108) (v := ?_) (a' := ?_) #[true, true, true, true, true, true, true, true, true, true, true, true, true, true, true, true, true, true, true, true] rfl rfl (any_of HT_.out (by kernel_rfl)) (fun _ _ _ h => h) (Or.inl ⟨by rfl, ?_⟩) ?_ ?_
                                                    rotate_left
                                                    · intro w'
                                                      go_simp
                                                      with_reducible rfl
                                                    rotate_left
                                                    · simp only [Act.put, List.setIfInBounds_toArray, List.set_cons_zero, List.set_cons_succ, i64_w, i32_w]
                                                      rfl
                                                    refine done_ (done_of HT_.out (by kernel_rfl)) ?_
                                                    try go_wp2
                                                    go_meet
                                                    case rel => exact ⟨_, (decide ((wrap64 (4 * t266)) > (wrap64 (x15_37 * x15_37)))), (by first | rfl | (simp; done) | (simp [*]; done)), H', ⟨by have := HJ3.out; have := HK2.out; have := HJ27.out; have := HK4.out; have := HJ37.out; first | omega | exact Nat.le_refl _⟩, ⟨by (with_reducible repeat (first | apply Kd.R_alloc | apply Kd.R_drewN | apply Kd.R_drew)); exact HO_7.out⟩, ⟨by (with_reducible repeat (first | apply Kd.R_alloc | apply Kd.R_drewN | apply Kd.R_drew)); exact HO_38.out⟩, ⟨by (with_reducible repeat (first | apply Kd.R_alloc | apply Kd.R_drewN | apply Kd.R_drew)); exact HO_59.out⟩, ⟨by (with_reducible repeat (first | refine blk_drewN ?_ _ | refine blk_drew ?_ | refine blk_alloc ?_ _)); exact BK244.out⟩, ⟨by (with_reducible repeat (first | refine blk_drewN ?_ _ | refine blk_drew ?_ | refine blk_alloc ?_ _)); exact BK245.out⟩, ⟨by (with_reducible repeat (first | refine blk_drewN ?_ _ | refine blk_drew ?_ | refine blk_alloc ?_ _)); exact BK264.out⟩, ⟨by repeat (first | (with_reducible first | exact HB.out | apply below_alloc | apply pw_below_drewN | apply below_drew1 | refine below_set ?_ GE244.out | refine below_set ?_ GE245.out | refine below_set ?_ GE264.out) | exact HB.out)⟩⟩
                                                · replace c60 := Bool.eq_false_iff.mpr c60
                                                  subst c60
                                                  have H1 : (metrolablaw47_GaugeKeeps.j5 kj37 l0 t249 x61_4 y254 (y254.length : Int) x40_2 t259 (t259.length : Int) x61_4 true a2_0 a2_1 a2_2) = some r := by rw [if_neg (show ¬ (false = true) by decide)] at H; exact H
                                                  clear H
                                                  have H := H1
                                                  clear H1
                                                  have H' := Aside0.mk H
                                                  clear H
                                                  try go_wp2
                                                  have n0_ := Aside0.mk (Kd.R_drew HO_7.out)
                                                  have n1_ := Aside0.mk (Kd.R_drew HO_38.out)
                                                  have n2_ := Aside0.mk (Kd.R_drew HO_59.out)
                                                  have n3_ := Aside0.mk (blk_drew BK244.out)
                                                  have n4_ := Aside0.mk (blk_drew BK245.out)
                                                  have n5_ := Aside0.mk (blk_drew BK264.out)
                                                  have n6_ := Aside0.mk (below_drew1 HB.out)
                                                  clear HO_7
                                                  clear HO_38
                                                  clear HO_59
                                                  clear BK244
                                                  clear BK245
                                                  clear BK264
                                                  clear HB
                                                  have HO_7 := n0_
                                                  have HO_38 := n1_
                                                  have HO_59 := n2_
                                                  have BK244 := n3_
                                                  have BK245 := n4_
                                                  have BK264 := n5_
                                                  have HB := n6_
                                                  clear n0_ n1_ n2_ n3_ n4_ n5_ n6_
                                                  have p268 : 0 ≤ (x61_4 : Int) := of_decide_eq_true (by first | (with_reducible assumption) | assumption)
                                                  have q268 : x61_4 < (l0.length : Int) := of_decide_eq_true (by first | (with_reducible assumption) | assumption)
                                                  obtain ⟨ad268, e268, hx268_0, hx268_1, hx268_2, hx268_3, hx268_4, hx268_5, hx268_6⟩ := at_T27 HR0.out x61_4 p268 q268
                                                  have hw268_6 := hx268_6
                                                  have hw268_5 := hx268_5
                                                  have hw268_4 := hx268_4
                                                  have hw268_3 := hx268_3
                                                  have hw268_2 := hx268_2
                                                  have hw268_1 := hx268_1
                                                  have hw268_0 := hx268_0
                                                  obtain rfl : ad265 = ad268 := (by injection e268)
                                                  replace hx268_0 := (HB.out.cell (World.block_lt_of_cell? w _ hx268_0)).trans hx268_0
                                                  replace hx268_1 := (HB.out.cell (World.block_lt_of_cell? w _ hx268_1)).trans hx268_1
                                                  replace hx268_2 := (HB.out.cell (World.block_lt_of_cell? w _ hx268_2)).trans hx268_2
                                                  replace hx268_3 := (HB.out.cell (World.block_lt_of_cell? w _ hx268_3)).trans hx268_3
                                                  replace hx268_4 := (HB.out.cell (World.block_lt_of_cell? w _ hx268_4)).trans hx268_4
                                                  replace hx268_5 := (HB.out.cell (World.block_lt_of_cell? w _ hx268_5)).trans hx268_5
                                                  replace hx268_6 := (HB.out.cell (World.block_lt_of_cell? w _ hx268_6)).trans hx268_6
                                                  replace p268 := eq_true p268
                                                  replace q268 := eq_true q268
                                                  refine start_ (n := 20) (S := fun w' => w'.cell? ⟨gb245, 0, none⟩ = some (.int .i64 a2_0) ∧ w'.cell? ⟨gb245, 1, none⟩ = some (.int .i64 a2_1) ∧ w'.cell? ⟨gb245, 2, none⟩ = some (.int .i64 a2_2) ∧ w'.cell? (ad265.add ((x61_4).toNat * 7)) = some (.int .i64 ((rd_T27 l0 x61_4).f0.f0)) ∧ w'.cell? ⟨(ad265.add ((x61_4).toNat * 7)).block, (ad265.add ((x61_4).toNat * 7)).off + 1, none⟩ = some (.int .i64 ((rd_T27 l0 x61_4).f0.f1)) ∧ w'.cell? ⟨(ad265.add ((x61_4).toNat * 7)).block, (ad265.add ((x61_4).toNat * 7)).off + 2, none⟩ = some (.int .i64 ((rd_T27 l0 x61_4).f1.f0)) ∧ w'.cell? ⟨(ad265.add ((x61_4).toNat * 7)).block, (ad265.add ((x61_4).toNat * 7)).off + 3, none⟩ = some (.int .i64 ((rd_T27 l0 x61_4).f1.f1)) ∧ w'.cell? ⟨(ad265.add ((x61_4).toNat * 7)).block, (ad265.add ((x61_4).toNat * 7)).off + 4, none⟩ = some (.int .i64 ((rd_T27 l0 x61_4).f2)) ∧ w'.cell? ⟨(ad265.add ((x61_4).toNat * 7)).block, (ad265.add ((x61_4).toNat * 7)).off + 5, none⟩ = some (.int .i64 ((rd_T27 l0 x61_4).f3)) ∧ w'.cell? ⟨(ad265.add ((x61_4).toNat * 7)).block, (ad265.add ((x61_4).toNat * 7)).off + 6, none⟩ = some (.bool ((rd_T27 l0 x61_4).f4))) (ds := []) #[false, false, false, false, false, false, false, false, false, false, false, false, false, false, false, false, false, false, false, false] (by kernel_rfl) rfl rfl ⟨(blk_cell BK245.out 0).trans rfl, (blk_cell BK245.out 1).trans rfl, (blk_cell BK245.out 2).trans rfl, ((HB.out.cell (World.block_lt_of_cell? w _ hw268_0)).trans hw268_0), ((HB.out.cell (World.block_lt_of_cell? w _ hw268_1)).trans hw268_1), ((HB.out.cell (World.block_lt_of_cell? w _ hw268_2)).trans hw268_2), ((HB.out.cell (World.block_lt_of_cell? w _ hw268_3)).trans hw268_3), ((HB.out.cell (World.block_lt_of_cell? w _ hw268_4)).trans hw268_4), ((HB.out.cell (World.block_lt_of_cell? w _ hw268_5)).trans hw268_5), ((HB.out.cell (World.block_lt_of_cell? w _ hw268_6)).trans hw268_6)⟩ (fun hHeld => ?_); refine with_tabW metrolablaw47_GaugeKeeps.tab21 metrolablaw47_GaugeKeeps.bits21 (fun HT_ HW_ => ?_)
                                                  generalize w58.drew = w66 at HO_7 HO_38 HO_59 BK244 BK245 BK264 HB hx268_0 hx268_1 hx268_2 hx268_3 hx268_4 hx268_5 hx268_6 hHeld ⊢
                                                  refine pure_ (i := 0) (N := some 89) (v := ?_) (a' := ?_) #[true, false, false, false, false, false, false, false, false, false, false, false, false, false, false, false, false, false, false, false] rfl rfl (any_of HT_.out (by kernel_rfl)) (fun _ _ _ h => h) (Or.inl ⟨by rfl, ?_⟩) ?_ ?_
                                                  rotate_left
                                                  · intro w'
                                                    go_simp
                                                    with_reducible rfl
                                                  rotate_left
                                                  · simp only [Act.put, List.setIfInBounds_toArray, List.set_cons_zero, List.set_cons_succ, i64_w, i32_w]
                                                    rfl
                                                  refine pure_ (i := 1) (N := some 90) (v := ?_) (a' := ?_) #[true, true, false, false, false, false, false, false, false, false, false, false, false, false, false, false, false, false, false, false] rfl rfl (any_of HT_.out (by kernel_rfl)) (fun _ _ _ h => h) (Or.inl ⟨by rfl, ?_⟩) ?_ ?_
                                                  rotate_left
                                                  · intro w'
                                                    go_simp
                                                    with_reducible rfl
                                                  rotate_left
                                                  · simp only [Act.put, List.setIfInBounds_toArray, List.set_cons_zero, List.set_cons_succ, i64_w, i32_w]
                                                    rfl
                                                  refine pure_ (i := 2) (N := some 91) (v := ?_) (a' := ?_) #[true, true, true, false, false, false, false, false, false, false, false, false, false, false, false, false, false, false, false, false] rfl rfl (any_of HT_.out (by kernel_rfl)) (fun _ _ _ h => h) (Or.inl ⟨by rfl, ?_⟩) ?_ ?_
                                                  rotate_left
                                                  · intro w'
                                                    go_simp
                                                    with_reducible rfl
                                                  rotate_left
                                                  · simp only [Act.put, List.setIfInBounds_toArray, List.set_cons_zero, List.set_cons_succ, i64_w, i32_w]
                                                    rfl
                                                  refine pure_ (i := 4) (N := some 93) (v := ?_) (a' := ?_) #[true, true, true, false, true, false, false, false, false, false, false, false, false, false, false, false, false, false, false, false] rfl rfl (any_of HT_.out (by kernel_rfl)) (fun _ _ _ h => h) (Or.inl ⟨by rfl, ?_⟩) ?_ ?_
                                                  rotate_left
                                                  · intro w'
                                                    go_simp
                                                    with_reducible rfl
                                                  rotate_left
                                                  · simp only [Act.put, List.setIfInBounds_toArray, List.set_cons_zero, List.set_cons_succ, i64_w, i32_w]
                                                    rfl
                                                  refine take_ (i := 3) (N := some 92) (v := ?_) (a' := ?_) #[true, true, true, true, true, false, false, false, false, false, false, false, false, false, false, false, false, false, false, false] rfl rfl (take_ofW HT_.out HW_.out (by kernel_rfl)) (fun _ _ _ h => h) (Or.inl ⟨by rfl, ?_⟩) hHeld ?_ ?_
                                                  rotate_left
                                                  · rintro w' ⟨s0, s1, s2, s3, s4, s5, s6, s7, s8, s9⟩
                                                    go_simp
                                                    with_reducible rfl
                                                  rotate_left
                                                  · simp only [Act.put, List.setIfInBounds_toArray, List.set_cons_zero, List.set_cons_succ, i64_w, i32_w]
                                                    rfl
                                                  refine take_ (i := 5) (N := some 94) (v := ?_) (a' := ?_) #[true, true, true, true, true, true, false, false, false, false, false, false, false, false, false, false, false, false, false, false] rfl rfl (take_ofW HT_.out HW_.out (by kernel_rfl)) (fun _ _ _ h => h) (Or.inl ⟨by rfl, ?_⟩) hHeld ?_ ?_
                                                  rotate_left
                                                  · rintro w' ⟨s0, s1, s2, s3, s4, s5, s6, s7, s8, s9⟩
                                                    go_simp
                                                    with_reducible rfl
                                                  rotate_left
                                                  · simp only [Act.put, List.setIfInBounds_toArray, List.set_cons_zero, List.set_cons_succ, i64_w, i32_w]
                                                    rfl
                                                  refine one_ (i := 6) (N := some 95) #[true, true, true, true, true, true, true, false, false, false, false, false, false, false, false, false, false, false, false, false] rfl rfl (one_of HT_.out (by kernel_rfl)) (by decide) (fun K hK => ?_)
                                                  refine goes_ Tryd.func44 (by kernel_rfl) rfl #[.agg #[.int .i64 ((rd_T27 l0 x61_4).f0.f0), .int .i64 ((rd_T27 l0 x61_4).f0.f1), .int .i64 ((rd_T27 l0 x61_4).f1.f0), .int .i64 ((rd_T27 l0 x61_4).f1.f1), .int .i64 ((rd_T27 l0 x61_4).f2), .int .i64 ((rd_T27 l0 x61_4).f3), .bool ((rd_T27 l0 x61_4).f4)], .int .i64 a2_2] (by rfl) rfl rfl (by (try simp only [List.map_toArray, List.map_cons, List.map_nil]); first | done | rfl | (simp only [List.length_drop, List.length_take]; rfl)) ?_
                                                  with_reducible refine (metrolabref44_Inside.calls ((rd_T27 l0 x61_4).f0.f0) ((rd_T27 l0 x61_4).f0.f1) ((rd_T27 l0 x61_4).f1.f0) ((rd_T27 l0 x61_4).f1.f1) ((rd_T27 l0 x61_4).f2) ((rd_T27 l0 x61_4).f3) ((rd_T27 l0 x61_4).f4) a2_2 false _ A59.out).mono ?_
                                                  rintro e w67 ⟨rfl, hb⟩
                                                  refine ⟨_, rfl, ?_⟩
                                                  have n0_ := Aside0.mk (Kd.R_below (by (with_reducible repeat (first | apply Kd.R_alloc | apply Kd.R_drewN | apply Kd.R_drew)); exact HO_7.out) hb)
                                                  have n1_ := Aside0.mk (Kd.R_below (by (with_reducible repeat (first | apply Kd.R_alloc | apply Kd.R_drewN | apply Kd.R_drew)); exact HO_38.out) hb)
                                                  have n2_ := Aside0.mk (Kd.R_below (by (with_reducible repeat (first | apply Kd.R_alloc | apply Kd.R_drewN | apply Kd.R_drew)); exact HO_59.out) hb)
                                                  have n3_ := Aside0.mk (blk_below (g := gb244) (o := .cells #[.int .i64 a1_0, .int .i64 a1_1] 44 (0, 0)) (by (with_reducible repeat (first | refine blk_drewN ?_ _ | refine blk_drew ?_ | refine blk_alloc ?_ _)); exact BK244.out) hb)
                                                  have n4_ := Aside0.mk (blk_below (g := gb245) (o := .cells #[.int .i64 a2_0, .int .i64 a2_1, .int .i64 a2_2] 68 (0, 0)) (by (with_reducible repeat (first | refine blk_drewN ?_ _ | refine blk_drew ?_ | refine blk_alloc ?_ _)); exact BK245.out) hb)
                                                  have n5_ := Aside0.mk (blk_below (g := gb264) (o := .cells #[.int .i64 ((rd_T56 t259 x61_4).f0.f0), .int .i64 ((rd_T56 t259 x61_4).f0.f1), .bool ((rd_T56 t259 x61_4).f1), .int .i64 ((rd_T56 t259 x61_4).f2)] 56 (0, 0)) (by (with_reducible repeat (first | refine blk_drewN ?_ _ | refine blk_drew ?_ | refine blk_alloc ?_ _)); exact BK264.out) hb)
                                                  have n6_ := Aside0.mk (below_step (by repeat (first | (with_reducible first | exact HB.out | apply below_alloc | apply pw_below_drewN | apply below_drew1 | refine below_set ?_ GE244.out | refine below_set ?_ GE245.out | refine below_set ?_ GE264.out) | exact HB.out)) hb)
                                                  clear HO_7
                                                  clear HO_38
                                                  clear HO_59
                                                  clear BK244
                                                  clear BK245
                                                  clear BK264
                                                  clear HB
                                                  have HO_7 := n0_
                                                  have HO_38 := n1_
                                                  have HO_59 := n2_
                                                  have BK244 := n3_
                                                  have BK245 := n4_
                                                  have BK264 := n5_
                                                  have HB := n6_
                                                  clear n0_ n1_ n2_ n3_ n4_ n5_ n6_
                                                  (try clear hb)
                                                  (try clear hb2)
                                                  (try clear hk)
                                                  (try clear hi)
                                                  refine hK.out _ _ ⟨(blk_cell BK245.out 0).trans rfl, (blk_cell BK245.out 1).trans rfl, (blk_cell BK245.out 2).trans rfl, ((HB.out.cell (World.block_lt_of_cell? w _ hw268_0)).trans hw268_0), ((HB.out.cell (World.block_lt_of_cell? w _ hw268_1)).trans hw268_1), ((HB.out.cell (World.block_lt_of_cell? w _ hw268_2)).trans hw268_2), ((HB.out.cell (World.block_lt_of_cell? w _ hw268_3)).trans hw268_3), ((HB.out.cell (World.block_lt_of_cell? w _ hw268_4)).trans hw268_4), ((HB.out.cell (World.block_lt_of_cell? w _ hw268_5)).trans hw268_5), ((HB.out.cell (World.block_lt_of_cell? w _ hw268_6)).trans hw268_6)⟩ (fun hHeld => ?_)
                                                  clear hK K
                                                  refine norm_ (a' := ?_) ?_ ?_
                                                  rotate_left
                                                  · show Act.put _ (some 95) _ = _
                                                    simp only [Act.put, List.setIfInBounds_toArray, List.set_cons_zero, List.set_cons_succ, i64_w, i32_w]
                                                    rfl
                                                  refine pure_ (i := 7) (N := some 96) (v := ?_) (a' := ?_) #[true, true, true, true, true, true, true, true, false, false, false, false, false, false, false, false, false, false, false, false] rfl rfl (any_of HT_.out (by kernel_rfl)) (fun _ _ _ h => h) (Or.inl ⟨by rfl, ?_⟩) ?_ ?_
                                                  rotate_left
                                                  · intro w'
                                                    go_simp
                                                    with_reducible rfl
                                                  rotate_left
                                                  · simp only [Act.put, List.setIfInBounds_toArray, List.set_cons_zero, List.set_cons_succ, i64_w, i32_w]
                                                    rfl
                                                  refine pure_ (i := 8) (N := some 97) (v := ?_) (a' := ?_) #[true, true, true, true, true, true, true, true, true, false, false, false, false, false, false, false, false, false, false, false] rfl rfl (any_of HT_.out (by kernel_rfl)) (fun _ _ _ h => h) (Or.inl ⟨by rfl, ?_⟩) ?_ ?_
                                                  rotate_left
                                                  · intro w'
                                                    go_simp
                                                    with_reducible rfl
                                                  rotate_left
                                                  · simp only [Act.put, List.setIfInBounds_toArray, List.set_cons_zero, List.set_cons_succ, i64_w, i32_w]
                                                    rfl
                                                  refine pure_ (i := 9) (N := some 98) (v := undef) (a' := ?_) #[true, true, true, true, true, true, true, true, true, true, false, false, false, false, false, false, false, false, false, false] rfl rfl (any_of HT_.out (by kernel_rfl)) (fun _ _ _ h => h) (Or.inr ⟨by rfl, rfl⟩) ?_ ?_
                                                  rotate_left
                                                  · simp only [Act.put, List.setIfInBounds_toArray, List.set_cons_zero, List.set_cons_succ, i64_w, i32_w]
                                                    rfl
                                                  refine pure_ (i := 10) (N := some 99) (v := undef) (a' := ?_) #[true, true, true, true, true, true, true, true, true, true, true, false, false, false, false, false, false, false, false, false] rfl rfl (any_of HT_.out (by kernel_rfl)) (fun _ _ _ h => h) (Or.inr ⟨by rfl, rfl⟩) ?_ ?_
                                                  rotate_left
                                                  · simp only [Act.put, List.setIfInBounds_toArray, List.set_cons_zero, List.set_cons_succ, i64_w, i32_w]
                                                    rfl
                                                  refine pure_ (i := 11) (N := some 100) (v := ?_) (a' := ?_) #[true, true, true, true, true, true, true, true, true, true, true, true, false, false, false, false, false, false, false, false] rfl rfl (any_of HT_.out (by kernel_rfl)) (fun _ _ _ h => h) (Or.inl ⟨by rfl, ?_⟩) ?_ ?_
                                                  rotate_left
                                                  · intro w'
                                                    go_simp
                                                    with_reducible rfl
                                                  rotate_left
                                                  · simp only [Act.put, List.setIfInBounds_toArray, List.set_cons_zero, List.set_cons_succ, i64_w, i32_w]
                                                    rfl
                                                  refine pure_ (i := 12) (N := some 101) (v := ?_) (a' := ?_) #[true, true, true, true, true, true, true, true, true, true, true, true, true, false, false, false, false, false, false, false] rfl rfl (any_of HT_.out (by kernel_rfl)) (fun _ _ _ h => h) (Or.inl ⟨by rfl, ?_⟩) ?_ ?_
                                                  rotate_left
                                                  · intro w'
                                                    go_simp
                                                    with_reducible rfl
                                                  rotate_left
                                                  · simp only [Act.put, List.setIfInBounds_toArray, List.set_cons_zero, List.set_cons_succ, i64_w, i32_w]
                                                    rfl
                                                  refine pure_ (i := 13) (N := some 102) (v := undef) (a' := ?_) #[true, true, true, true, true, true, true, true, true, true, true, true, true, true, false, false, false, false, false, false] rfl rfl (any_of HT_.out (by kernel_rfl)) (fun _ _ _ h => h) (Or.inr ⟨by rfl, rfl⟩) ?_ ?_
                                                  rotate_left
                                                  · simp only [Act.put, List.setIfInBounds_toArray, List.set_cons_zero, List.set_cons_succ, i64_w, i32_w]
                                                    rfl
                                                  refine pure_ (i := 14) (N := some 103) (v := undef) (a' := ?_) #[true, true, true, true, true, true, true, true, true, true, true, true, true, true, true, false, false, false, false, false] rfl rfl (any_of HT_.out (by kernel_rfl)) (fun _ _ _ h => h) (Or.inr ⟨by rfl, rfl⟩) ?_ ?_
                                                  rotate_left
                                                  · simp only [Act.put, List.setIfInBounds_toArray, List.set_cons_zero, List.set_cons_succ, i64_w, i32_w]
                                                    rfl
                                                  refine pure_ (i := 15) (N := some 104) (v := undef) (a' := ?_) #[true, true, true, true, true, true, true, true, true, true, true, true, true, true, true, true, false, false, false, false] rfl rfl (any_of HT_.out (by kernel_rfl)) (fun _ _ _ h => h) (Or.inr ⟨by rfl, rfl⟩) ?_ ?_
                                                  rotate_left
                                                  · simp only [Act.put, List.setIfInBounds_toArray, List.set_cons_zero, List.set_cons_succ, i64_w, i32_w]
                                                    rfl
                                                  refine pure_ (i := 16) (N := some 105) (v := undef) (a' := ?_) #[true, true, true, true, true, true, true, true, true, true, true, true, true, true, true, true, true, false, false, false] rfl rfl (any_of HT_.out (by kernel_rfl)) (fun _ _ _ h => h) (Or.inr ⟨by rfl, rfl⟩) ?_ ?_
                                                  rotate_left
                                                  · simp only [Act.put, List.setIfInBounds_toArray, List.set_cons_zero, List.set_cons_succ, i64_w, i32_w]
                                                    rfl
                                                  refine pure_ (i := 17) (N := some 106) (v := undef) (a' := ?_) #[true, true, true, true, true, true, true, true, true, true, true, true, true, true, true, true, true, true, false, false] rfl rfl (any_of HT_.out (by kernel_rfl)) (fun _ _ _ h => h) (Or.inr ⟨by rfl, rfl⟩) ?_ ?_
                                                  rotate_left
                                                  · simp only [Act.put, List.setIfInBounds_toArray, List.set_cons_zero, List.set_cons_succ, i64_w, i32_w]
                                                    rfl
                                                  refine pure_ (i := 18) (N := some 107) (v := undef) (a' := ?_) #[true, true, true, true, true, true, true, true, true, true, true, true, true, true, true, true, true, true, true, false] rfl rfl (any_of HT_.out (by kernel_rfl)) (fun _ _ _ h => h) (Or.inr ⟨by rfl, rfl⟩) ?_ ?_
                                                  rotate_left
                                                  · simp only [Act.put, List.setIfInBounds_toArray, List.set_cons_zero, List.set_cons_succ, i64_w, i32_w]
                                                    rfl
                                                  refine pure_ (i := 19) (N := some 108) (v := ?_) (a' := ?_) #[true, true, true, true, true, true, true, true, true, true, true, true, true, true, true, true, true, true, true, true] rfl rfl (any_of HT_.out (by kernel_rfl)) (fun _ _ _ h => h) (Or.inl ⟨by rfl, ?_⟩) ?_ ?_
                                                  rotate_left
                                                  · intro w'
                                                    go_simp
                                                    with_reducible rfl
                                                  rotate_left
                                                  · simp only [Act.put, List.setIfInBounds_toArray, List.set_cons_zero, List.set_cons_succ, i64_w, i32_w]
                                                    rfl
                                                  refine done_ (done_of HT_.out (by kernel_rfl)) ?_
                                                  try go_wp2
                                                  go_meet
                                                  case rel => exact ⟨_, (true), (by first | rfl | (simp; done) | (simp [*]; done)), H', ⟨by have := HJ3.out; have := HK2.out; have := HJ27.out; have := HK4.out; have := HJ37.out; first | omega | exact Nat.le_refl _⟩, ⟨by (with_reducible repeat (first | apply Kd.R_alloc | apply Kd.R_drewN | apply Kd.R_drew)); exact HO_7.out⟩, ⟨by (with_reducible repeat (first | apply Kd.R_alloc | apply Kd.R_drewN | apply Kd.R_drew)); exact HO_38.out⟩, ⟨by (with_reducible repeat (first | apply Kd.R_alloc | apply Kd.R_drewN | apply Kd.R_drew)); exact HO_59.out⟩, ⟨by (with_reducible repeat (first | refine blk_drewN ?_ _ | refine blk_drew ?_ | refine blk_alloc ?_ _)); exact BK244.out⟩, ⟨by (with_reducible repeat (first | refine blk_drewN ?_ _ | refine blk_drew ?_ | refine blk_alloc ?_ _)); exact BK245.out⟩, ⟨by (with_reducible repeat (first | refine blk_drewN ?_ _ | refine blk_drew ?_ | refine blk_alloc ?_ _)); exact BK264.out⟩, ⟨by repeat (first | (with_reducible first | exact HB.out | apply below_alloc | apply pw_below_drewN | apply below_drew1 | refine below_set ?_ GE244.out | refine below_set ?_ GE245.out | refine below_set ?_ GE264.out) | exact HB.out)⟩⟩
                                              case rest =>
                                                clear HC56
                                                try clear p2
                                                try clear q2
                                                try clear hx2
                                                try clear c4
                                                try clear c6
                                                try clear p6
                                                try clear p26
                                                try clear q26
                                                try clear hx26
                                                try clear c44
                                                try clear c60
                                                try clear c61
                                                try clear c61b0
                                                try clear p64
                                                try clear hx268_0
                                                try clear hx268_1
                                                try clear hx268_2
                                                try clear hx268_3
                                                try clear hx268_4
                                                try clear hx268_5
                                                try clear hx268_6
                                                try clear p268
                                                try clear q268
                                                obtain ⟨kq, x108_55, rfl, HA, HJ55, HO_7, HO_38, HO_59, BK244, BK245, BK264, HB⟩ := hcut
                                                cases kq with
                                                | zero => exact absurd HA.out (by simp [metrolablaw47_GaugeKeeps.j5])
                                                | succ kj55 =>
                                                  have H := HA.out
                                                  clear HA
                                                  simp only [metrolablaw47_GaugeKeeps.j5] at H
                                                  by_cases c68 : x108_55 = true
                                                  · subst c68
                                                    have H1 : (metrolablaw47_GaugeKeeps.l1 kj55 l0 t249 y254 (y254.length : Int) x40_2 t259 (t259.length : Int) (wrap64 (x61_4 + 1)) a2_0 a2_1 a2_2) = some r := by rw [if_pos rfl] at H; exact H
                                                    clear H
                                                    have H := H1
                                                    clear H1
                                                    have H' := Aside0.mk H
                                                    clear H
                                                    go_wp2
                                                    go_roundg kj55
                                                    case measure => have := HJ3.out; have := HK2.out; have := HJ27.out; have := HK4.out; have := HJ37.out; have := HJ55.out; omega
                                                    case rel => exact ⟨(wrap64 (x61_4 + 1)), (by first | rfl | (simp; done) | (simp [*]; done)), H', ⟨by have := HJ3.out; have := HK2.out; have := HJ27.out; have := HK4.out; have := HJ37.out; have := HJ55.out; omega⟩, ⟨by (with_reducible repeat (first | apply Kd.R_alloc | apply Kd.R_drewN | apply Kd.R_drew)); exact HO_7.out⟩, ⟨by (with_reducible repeat (first | apply Kd.R_alloc | apply Kd.R_drewN | apply Kd.R_drew)); exact HO_38.out⟩, ⟨by (with_reducible repeat (first | apply Kd.R_alloc | apply Kd.R_drewN | apply Kd.R_drew)); exact Kd.R_mono HO_59.out (fun _ hk => trivial)⟩, ⟨by (with_reducible repeat (first | refine blk_drewN ?_ _ | refine blk_drew ?_ | refine blk_alloc ?_ _)); exact BK244.out⟩, ⟨by (with_reducible repeat (first | refine blk_drewN ?_ _ | refine blk_drew ?_ | refine blk_alloc ?_ _)); exact BK245.out⟩, ⟨by repeat (first | (with_reducible first | exact HB.out | apply below_alloc | apply pw_below_drewN | apply below_drew1 | refine below_set ?_ GE244.out | refine below_set ?_ GE245.out | refine below_set ?_ GE264.out) | exact HB.out)⟩⟩
                                                  · replace c68 := Bool.eq_false_iff.mpr c68
                                                    subst c68
                                                    have H1 : (if 0 ≤ x61_4 then (if x61_4 < (l0.length : Int) then ((bonus_Keeps.f kj55 ((rd_T27 l0 x61_4).f0.f0) ((rd_T27 l0 x61_4).f0.f1) ((rd_T27 l0 x61_4).f1.f0) ((rd_T27 l0 x61_4).f1.f1) ((rd_T27 l0 x61_4).f2) ((rd_T27 l0 x61_4).f3) ((rd_T27 l0 x61_4).f4) a2_0 a2_1 a2_2).bind fun bt271 => (if bt271.2 = 0 then (if bt271.1 = true then (metrolablaw47_GaugeKeeps.l1 kj55 l0 t249 y254 (y254.length : Int) x40_2 t259 (t259.length : Int) (wrap64 (x61_4 + 1)) a2_0 a2_1 a2_2) else (some false)) else (some false))) else (none)) else (none)) = some r := by rw [if_neg (show ¬ (false = true) by decide)] at H; exact H
                                                    clear H
                                                    have H := H1
                                                    clear H1
                                                    by_cases c69 : 0 ≤ x61_4
                                                    · rw [if_pos c69] at H
                                                      have c69b0 : decide (0 ≤ x61_4) = true := decide_eq_true c69
                                                      clear c69
                                                      by_cases c70 : x61_4 < (l0.length : Int)
                                                      · rw [if_pos c70] at H
                                                        have c70b0 : decide (x61_4 < (l0.length : Int)) = true := decide_eq_true c70
                                                        clear c70
                                                        replace H := Option.bind_eq_some_iff.mp H
                                                        obtain ⟨⟨t271, t272⟩, A710, H⟩ := H
                                                        replace H : (if t272 = 0 then (if t271 = true then (metrolablaw47_GaugeKeeps.l1 kj55 l0 t249 y254 (y254.length : Int) x40_2 t259 (t259.length : Int) (wrap64 (x61_4 + 1)) a2_0 a2_1 a2_2) else (some false)) else (some false)) = some r := H
                                                        have A71 := Aside0.mk A710
                                                        clear A710
                                                        by_cases c72 : t272 = 0
                                                        · rw [if_pos c72] at H
                                                          have c72b0 : (t272 == 0) = true := beq_iff_eq.mpr c72
                                                          have c72b1 : (t272 != 0) = false := bne_eq_false_iff_eq.mpr c72
                                                          clear c72
                                                          by_cases c73 : t271 = true
                                                          · subst c73
                                                            have H1 : (metrolablaw47_GaugeKeeps.l1 kj55 l0 t249 y254 (y254.length : Int) x40_2 t259 (t259.length : Int) (wrap64 (x61_4 + 1)) a2_0 a2_1 a2_2) = some r := by rw [if_pos rfl] at H; exact H
                                                            clear H
                                                            have H := H1
                                                            clear H1
                                                            have H' := Aside0.mk H
                                                            clear H
                                                            try go_wp2
                                                            have n0_ := Aside0.mk (Kd.R_drew HO_7.out)
                                                            have n1_ := Aside0.mk (Kd.R_drew HO_38.out)
                                                            have n2_ := Aside0.mk (Kd.R_drew HO_59.out)
                                                            have n3_ := Aside0.mk (blk_drew BK244.out)
                                                            have n4_ := Aside0.mk (blk_drew BK245.out)
                                                            have n5_ := Aside0.mk (blk_drew BK264.out)
                                                            have n6_ := Aside0.mk (below_drew1 HB.out)
                                                            clear HO_7
                                                            clear HO_38
                                                            clear HO_59
                                                            clear BK244
                                                            clear BK245
                                                            clear BK264
                                                            clear HB
                                                            have HO_7 := n0_
                                                            have HO_38 := n1_
                                                            have HO_59 := n2_
                                                            have BK244 := n3_
                                                            have BK245 := n4_
                                                            have BK264 := n5_
                                                            have HB := n6_
                                                            clear n0_ n1_ n2_ n3_ n4_ n5_ n6_
                                                            have p270 : 0 ≤ (x61_4 : Int) := of_decide_eq_true (by first | (with_reducible assumption) | assumption)
                                                            have q270 : x61_4 < (l0.length : Int) := of_decide_eq_true (by first | (with_reducible assumption) | assumption)
                                                            obtain ⟨ad270, e270, hx270_0, hx270_1, hx270_2, hx270_3, hx270_4, hx270_5, hx270_6⟩ := at_T27 HR0.out x61_4 p270 q270
                                                            have hw270_6 := hx270_6
                                                            have hw270_5 := hx270_5
                                                            have hw270_4 := hx270_4
                                                            have hw270_3 := hx270_3
                                                            have hw270_2 := hx270_2
                                                            have hw270_1 := hx270_1
                                                            have hw270_0 := hx270_0
                                                            obtain rfl : ad265 = ad270 := (by injection e270)
                                                            replace hx270_0 := (HB.out.cell (World.block_lt_of_cell? w _ hx270_0)).trans hx270_0
                                                            replace hx270_1 := (HB.out.cell (World.block_lt_of_cell? w _ hx270_1)).trans hx270_1
                                                            replace hx270_2 := (HB.out.cell (World.block_lt_of_cell? w _ hx270_2)).trans hx270_2
                                                            replace hx270_3 := (HB.out.cell (World.block_lt_of_cell? w _ hx270_3)).trans hx270_3
                                                            replace hx270_4 := (HB.out.cell (World.block_lt_of_cell? w _ hx270_4)).trans hx270_4
                                                            replace hx270_5 := (HB.out.cell (World.block_lt_of_cell? w _ hx270_5)).trans hx270_5
                                                            replace hx270_6 := (HB.out.cell (World.block_lt_of_cell? w _ hx270_6)).trans hx270_6
                                                            replace p270 := eq_true p270
                                                            replace q270 := eq_true q270
                                                            refine start_ (n := 11) (S := fun w' => w'.cell? ⟨gb245, 0, none⟩ = some (.int .i64 a2_0) ∧ w'.cell? ⟨gb245, 1, none⟩ = some (.int .i64 a2_1) ∧ w'.cell? ⟨gb245, 2, none⟩ = some (.int .i64 a2_2) ∧ w'.cell? (ad265.add ((x61_4).toNat * 7)) = some (.int .i64 ((rd_T27 l0 x61_4).f0.f0)) ∧ w'.cell? ⟨(ad265.add ((x61_4).toNat * 7)).block, (ad265.add ((x61_4).toNat * 7)).off + 1, none⟩ = some (.int .i64 ((rd_T27 l0 x61_4).f0.f1)) ∧ w'.cell? ⟨(ad265.add ((x61_4).toNat * 7)).block, (ad265.add ((x61_4).toNat * 7)).off + 2, none⟩ = some (.int .i64 ((rd_T27 l0 x61_4).f1.f0)) ∧ w'.cell? ⟨(ad265.add ((x61_4).toNat * 7)).block, (ad265.add ((x61_4).toNat * 7)).off + 3, none⟩ = some (.int .i64 ((rd_T27 l0 x61_4).f1.f1)) ∧ w'.cell? ⟨(ad265.add ((x61_4).toNat * 7)).block, (ad265.add ((x61_4).toNat * 7)).off + 4, none⟩ = some (.int .i64 ((rd_T27 l0 x61_4).f2)) ∧ w'.cell? ⟨(ad265.add ((x61_4).toNat * 7)).block, (ad265.add ((x61_4).toNat * 7)).off + 5, none⟩ = some (.int .i64 ((rd_T27 l0 x61_4).f3)) ∧ w'.cell? ⟨(ad265.add ((x61_4).toNat * 7)).block, (ad265.add ((x61_4).toNat * 7)).off + 6, none⟩ = some (.bool ((rd_T27 l0 x61_4).f4))) (ds := []) #[false, false, false, false, false, false, false, false, false, false, false] (by kernel_rfl) rfl rfl ⟨(blk_cell BK245.out 0).trans rfl, (blk_cell BK245.out 1).trans rfl, (blk_cell BK245.out 2).trans rfl, ((HB.out.cell (World.block_lt_of_cell? w _ hw270_0)).trans hw270_0), ((HB.out.cell (World.block_lt_of_cell? w _ hw270_1)).trans hw270_1), ((HB.out.cell (World.block_lt_of_cell? w _ hw270_2)).trans hw270_2), ((HB.out.cell (World.block_lt_of_cell? w _ hw270_3)).trans hw270_3), ((HB.out.cell (World.block_lt_of_cell? w _ hw270_4)).trans hw270_4), ((HB.out.cell (World.block_lt_of_cell? w _ hw270_5)).trans hw270_5), ((HB.out.cell (World.block_lt_of_cell? w _ hw270_6)).trans hw270_6)⟩ (fun hHeld => ?_); refine with_tabW metrolablaw47_GaugeKeeps.tab22 metrolablaw47_GaugeKeeps.bits22 (fun HT_ HW_ => ?_)
                                                            generalize wc.drew = w74 at HO_7 HO_38 HO_59 BK244 BK245 BK264 HB hx270_0 hx270_1 hx270_2 hx270_3 hx270_4 hx270_5 hx270_6 hHeld ⊢
                                                            refine pure_ (i := 0) (N := some 110) (v := ?_) (a' := ?_) #[true, false, false, false, false, false, false, false, false, false, false] rfl rfl (any_of HT_.out (by kernel_rfl)) (fun _ _ _ h => h) (Or.inl ⟨by rfl, ?_⟩) ?_ ?_
                                                            rotate_left
                                                            · intro w'
                                                              go_simp
                                                              with_reducible rfl
                                                            rotate_left
                                                            · simp only [Act.put, List.setIfInBounds_toArray, List.set_cons_zero, List.set_cons_succ, i64_w, i32_w]
                                                              rfl
                                                            refine pure_ (i := 1) (N := some 111) (v := ?_) (a' := ?_) #[true, true, false, false, false, false, false, false, false, false, false] rfl rfl (any_of HT_.out (by kernel_rfl)) (fun _ _ _ h => h) (Or.inl ⟨by rfl, ?_⟩) ?_ ?_
                                                            rotate_left
                                                            · intro w'
                                                              go_simp
                                                              with_reducible rfl
                                                            rotate_left
                                                            · simp only [Act.put, List.setIfInBounds_toArray, List.set_cons_zero, List.set_cons_succ, i64_w, i32_w]
                                                              rfl
                                                            refine pure_ (i := 2) (N := some 112) (v := ?_) (a' := ?_) #[true, true, true, false, false, false, false, false, false, false, false] rfl rfl (any_of HT_.out (by kernel_rfl)) (fun _ _ _ h => h) (Or.inl ⟨by rfl, ?_⟩) ?_ ?_
                                                            rotate_left
                                                            · intro w'
                                                              go_simp
                                                              with_reducible rfl
                                                            rotate_left
                                                            · simp only [Act.put, List.setIfInBounds_toArray, List.set_cons_zero, List.set_cons_succ, i64_w, i32_w]
                                                              rfl
                                                            refine take_ (i := 3) (N := some 113) (v := ?_) (a' := ?_) #[true, true, true, true, false, false, false, false, false, false, false] rfl rfl (take_ofW HT_.out HW_.out (by kernel_rfl)) (fun _ _ _ h => h) (Or.inl ⟨by rfl, ?_⟩) hHeld ?_ ?_
                                                            rotate_left
                                                            · rintro w' ⟨s0, s1, s2, s3, s4, s5, s6, s7, s8, s9⟩
                                                              go_simp
                                                              with_reducible rfl
                                                            rotate_left
                                                            · simp only [Act.put, List.setIfInBounds_toArray, List.set_cons_zero, List.set_cons_succ, i64_w, i32_w]
                                                              rfl
                                                            refine take_ (i := 4) (N := some 114) (v := ?_) (a' := ?_) #[true, true, true, true, true, false, false, false, false, false, false] rfl rfl (take_ofW HT_.out HW_.out (by kernel_rfl)) (fun _ _ _ h => h) (Or.inl ⟨by rfl, ?_⟩) hHeld ?_ ?_
                                                            rotate_left
                                                            · rintro w' ⟨s0, s1, s2, s3, s4, s5, s6, s7, s8, s9⟩
                                                              go_simp
                                                              with_reducible rfl
                                                            rotate_left
                                                            · simp only [Act.put, List.setIfInBounds_toArray, List.set_cons_zero, List.set_cons_succ, i64_w, i32_w]
                                                              rfl
                                                            refine one_ (i := 5) (N := some 115) #[true, true, true, true, true, true, false, false, false, false, false] rfl rfl (one_of HT_.out (by kernel_rfl)) (by decide) (fun K hK => ?_)
                                                            refine goes_ Tryd.func45 (by kernel_rfl) rfl #[.agg #[.int .i64 ((rd_T27 l0 x61_4).f0.f0), .int .i64 ((rd_T27 l0 x61_4).f0.f1), .int .i64 ((rd_T27 l0 x61_4).f1.f0), .int .i64 ((rd_T27 l0 x61_4).f1.f1), .int .i64 ((rd_T27 l0 x61_4).f2), .int .i64 ((rd_T27 l0 x61_4).f3), .bool ((rd_T27 l0 x61_4).f4)], .agg #[.int .i64 a2_0, .int .i64 a2_1, .int .i64 a2_2]] (by rfl) rfl rfl (by (try simp only [List.map_toArray, List.map_cons, List.map_nil]); first | done | rfl | (simp only [List.length_drop, List.length_take]; rfl)) ?_
                                                            with_reducible refine (bonus_Keeps.calls kj55 ((rd_T27 l0 x61_4).f0.f0) ((rd_T27 l0 x61_4).f0.f1) ((rd_T27 l0 x61_4).f1.f0) ((rd_T27 l0 x61_4).f1.f1) ((rd_T27 l0 x61_4).f2) ((rd_T27 l0 x61_4).f3) ((rd_T27 l0 x61_4).f4) a2_0 a2_1 a2_2 true t272 _ A71.out (by exact sig_below HS.out (by repeat (first | (with_reducible first | exact HB.out | apply below_alloc | apply pw_below_drewN | apply below_drew1 | refine below_set ?_ GE244.out | refine below_set ?_ GE245.out | refine below_set ?_ GE264.out) | exact HB.out)))).mono ?_
                                                            rintro e w75 ⟨rfl, hb⟩
                                                            refine ⟨_, rfl, ?_⟩
                                                            have n0_ := Aside0.mk (Kd.R_below (by (with_reducible repeat (first | apply Kd.R_alloc | apply Kd.R_drewN | apply Kd.R_drew)); exact HO_7.out) hb)
                                                            have n1_ := Aside0.mk (Kd.R_below (by (with_reducible repeat (first | apply Kd.R_alloc | apply Kd.R_drewN | apply Kd.R_drew)); exact HO_38.out) hb)
                                                            have n2_ := Aside0.mk (Kd.R_below (by (with_reducible repeat (first | apply Kd.R_alloc | apply Kd.R_drewN | apply Kd.R_drew)); exact HO_59.out) hb)
                                                            have n3_ := Aside0.mk (blk_below (g := gb244) (o := .cells #[.int .i64 a1_0, .int .i64 a1_1] 44 (0, 0)) (by (with_reducible repeat (first | refine blk_drewN ?_ _ | refine blk_drew ?_ | refine blk_alloc ?_ _)); exact BK244.out) hb)
                                                            have n4_ := Aside0.mk (blk_below (g := gb245) (o := .cells #[.int .i64 a2_0, .int .i64 a2_1, .int .i64 a2_2] 68 (0, 0)) (by (with_reducible repeat (first | refine blk_drewN ?_ _ | refine blk_drew ?_ | refine blk_alloc ?_ _)); exact BK245.out) hb)
                                                            have n5_ := Aside0.mk (blk_below (g := gb264) (o := .cells #[.int .i64 ((rd_T56 t259 x61_4).f0.f0), .int .i64 ((rd_T56 t259 x61_4).f0.f1), .bool ((rd_T56 t259 x61_4).f1), .int .i64 ((rd_T56 t259 x61_4).f2)] 56 (0, 0)) (by (with_reducible repeat (first | refine blk_drewN ?_ _ | refine blk_drew ?_ | refine blk_alloc ?_ _)); exact BK264.out) hb)
                                                            have n6_ := Aside0.mk (below_step (by repeat (first | (with_reducible first | exact HB.out | apply below_alloc | apply pw_below_drewN | apply below_drew1 | refine below_set ?_ GE244.out | refine below_set ?_ GE245.out | refine below_set ?_ GE264.out) | exact HB.out)) hb)
                                                            clear HO_7
                                                            clear HO_38
                                                            clear HO_59
                                                            clear BK244
                                                            clear BK245
                                                            clear BK264
                                                            clear HB
                                                            have HO_7 := n0_
                                                            have HO_38 := n1_
                                                            have HO_59 := n2_
                                                            have BK244 := n3_
                                                            have BK245 := n4_
                                                            have BK264 := n5_
                                                            have HB := n6_
                                                            clear n0_ n1_ n2_ n3_ n4_ n5_ n6_
                                                            (try clear hb)
                                                            (try clear hb2)
                                                            (try clear hk)
                                                            (try clear hi)
                                                            refine hK.out _ _ ⟨(blk_cell BK245.out 0).trans rfl, (blk_cell BK245.out 1).trans rfl, (blk_cell BK245.out 2).trans rfl, ((HB.out.cell (World.block_lt_of_cell? w _ hw270_0)).trans hw270_0), ((HB.out.cell (World.block_lt_of_cell? w _ hw270_1)).trans hw270_1), ((HB.out.cell (World.block_lt_of_cell? w _ hw270_2)).trans hw270_2), ((HB.out.cell (World.block_lt_of_cell? w _ hw270_3)).trans hw270_3), ((HB.out.cell (World.block_lt_of_cell? w _ hw270_4)).trans hw270_4), ((HB.out.cell (World.block_lt_of_cell? w _ hw270_5)).trans hw270_5), ((HB.out.cell (World.block_lt_of_cell? w _ hw270_6)).trans hw270_6)⟩ (fun hHeld => ?_)
                                                            clear hK K
                                                            refine norm_ (a' := ?_) ?_ ?_
                                                            rotate_left
                                                            · show Act.put _ (some 115) _ = _
                                                              simp only [Act.put, List.setIfInBounds_toArray, List.set_cons_zero, List.set_cons_succ, i64_w, i32_w]
                                                              rfl
                                                            refine pure_ (i := 6) (N := some 109) (v := ?_) (a' := ?_) #[true, true, true, true, true, true, true, false, false, false, false] rfl rfl (any_of HT_.out (by kernel_rfl)) (fun _ _ _ h => h) (Or.inl ⟨by rfl, ?_⟩) ?_ ?_
                                                            rotate_left
                                                            · intro w'
                                                              go_simp
                                                              with_reducible rfl
                                                            rotate_left
                                                            · simp only [Act.put, List.setIfInBounds_toArray, List.set_cons_zero, List.set_cons_succ, i64_w, i32_w]
                                                              rfl
                                                            refine pure_ (i := 7) (N := some 116) (v := ?_) (a' := ?_) #[true, true, true, true, true, true, true, true, false, false, false] rfl rfl (any_of HT_.out (by kernel_rfl)) (fun _ _ _ h => h) (Or.inl ⟨by rfl, ?_⟩) ?_ ?_
                                                            rotate_left
                                                            · intro w'
                                                              go_simp
                                                              with_reducible rfl
                                                            rotate_left
                                                            · simp only [Act.put, List.setIfInBounds_toArray, List.set_cons_zero, List.set_cons_succ, i64_w, i32_w]
                                                              rfl
                                                            refine pure_ (i := 8) (N := some 117) (v := ?_) (a' := ?_) #[true, true, true, true, true, true, true, true, true, false, false] rfl rfl (any_of HT_.out (by kernel_rfl)) (fun _ _ _ h => h) (Or.inl ⟨by rfl, ?_⟩) ?_ ?_
                                                            rotate_left
                                                            · intro w'
                                                              go_simp
                                                              with_reducible rfl
                                                            rotate_left
                                                            · simp only [Act.put, List.setIfInBounds_toArray, List.set_cons_zero, List.set_cons_succ, i64_w, i32_w]
                                                              rfl
                                                            refine pure_ (i := 9) (N := some 18) (v := ?_) (a' := ?_) #[true, true, true, true, true, true, true, true, true, true, false] rfl rfl (any_of HT_.out (by kernel_rfl)) (fun _ _ _ h => h) (Or.inl ⟨by rfl, ?_⟩) ?_ ?_
                                                            rotate_left
                                                            · intro w'
                                                              go_simp
                                                              with_reducible rfl
                                                            rotate_left
                                                            · simp only [Act.put, List.setIfInBounds_toArray, List.set_cons_zero, List.set_cons_succ, i64_w, i32_w]
                                                              rfl
                                                            refine pure_ (i := 10) (N := some 19) (v := ?_) (a' := ?_) #[true, true, true, true, true, true, true, true, true, true, true] rfl rfl (any_of HT_.out (by kernel_rfl)) (fun _ _ _ h => h) (Or.inl ⟨by rfl, ?_⟩) ?_ ?_
                                                            rotate_left
                                                            · intro w'
                                                              go_simp
                                                              with_reducible rfl
                                                            rotate_left
                                                            · simp only [Act.put, List.setIfInBounds_toArray, List.set_cons_zero, List.set_cons_succ, i64_w, i32_w]
                                                              rfl
                                                            refine done_ (done_of HT_.out (by kernel_rfl)) ?_
                                                            try go_wp2
                                                            go_roundg kj55
                                                            case measure => have := HJ3.out; have := HK2.out; have := HJ27.out; have := HK4.out; have := HJ37.out; have := HJ55.out; omega
                                                            case rel => exact ⟨(wrap64 (x61_4 + 1)), (by first | rfl | (simp; done) | (simp [*]; done)), H', ⟨by have := HJ3.out; have := HK2.out; have := HJ27.out; have := HK4.out; have := HJ37.out; have := HJ55.out; omega⟩, ⟨by (with_reducible repeat (first | apply Kd.R_alloc | apply Kd.R_drewN | apply Kd.R_drew)); exact HO_7.out⟩, ⟨by (with_reducible repeat (first | apply Kd.R_alloc | apply Kd.R_drewN | apply Kd.R_drew)); exact HO_38.out⟩, ⟨by (with_reducible repeat (first | apply Kd.R_alloc | apply Kd.R_drewN | apply Kd.R_drew)); exact Kd.R_mono HO_59.out (fun _ hk => trivial)⟩, ⟨by (with_reducible repeat (first | refine blk_drewN ?_ _ | refine blk_drew ?_ | refine blk_alloc ?_ _)); exact BK244.out⟩, ⟨by (with_reducible repeat (first | refine blk_drewN ?_ _ | refine blk_drew ?_ | refine blk_alloc ?_ _)); exact BK245.out⟩, ⟨by repeat (first | (with_reducible first | exact HB.out | apply below_alloc | apply pw_below_drewN | apply below_drew1 | refine below_set ?_ GE244.out | refine below_set ?_ GE245.out | refine below_set ?_ GE264.out) | exact HB.out)⟩⟩
                                                          · replace c73 := Bool.eq_false_iff.mpr c73
                                                            subst c73
                                                            have H1 : (some false) = some r := by rw [if_neg (show ¬ (false = true) by decide)] at H; exact H
                                                            clear H
                                                            have H := H1
                                                            clear H1
                                                            obtain rfl := Option.some.inj H
                                                            try go_wp2
                                                            have n0_ := Aside0.mk (Kd.R_drew HO_7.out)
                                                            have n1_ := Aside0.mk (Kd.R_drew HO_38.out)
                                                            have n2_ := Aside0.mk (Kd.R_drew HO_59.out)
                                                            have n3_ := Aside0.mk (blk_drew BK244.out)
                                                            have n4_ := Aside0.mk (blk_drew BK245.out)
                                                            have n5_ := Aside0.mk (blk_drew BK264.out)
                                                            have n6_ := Aside0.mk (below_drew1 HB.out)
                                                            clear HO_7
                                                            clear HO_38
                                                            clear HO_59
                                                            clear BK244
                                                            clear BK245
                                                            clear BK264
                                                            clear HB
                                                            have HO_7 := n0_
                                                            have HO_38 := n1_
                                                            have HO_59 := n2_
                                                            have BK244 := n3_
                                                            have BK245 := n4_
                                                            have BK264 := n5_
                                                            have HB := n6_
                                                            clear n0_ n1_ n2_ n3_ n4_ n5_ n6_
                                                            have p270 : 0 ≤ (x61_4 : Int) := of_decide_eq_true (by first | (with_reducible assumption) | assumption)
                                                            have q270 : x61_4 < (l0.length : Int) := of_decide_eq_true (by first | (with_reducible assumption) | assumption)
                                                            obtain ⟨ad270, e270, hx270_0, hx270_1, hx270_2, hx270_3, hx270_4, hx270_5, hx270_6⟩ := at_T27 HR0.out x61_4 p270 q270
                                                            have hw270_6 := hx270_6
                                                            have hw270_5 := hx270_5
                                                            have hw270_4 := hx270_4
                                                            have hw270_3 := hx270_3
                                                            have hw270_2 := hx270_2
                                                            have hw270_1 := hx270_1
                                                            have hw270_0 := hx270_0
                                                            obtain rfl : ad265 = ad270 := (by injection e270)
                                                            replace hx270_0 := (HB.out.cell (World.block_lt_of_cell? w _ hx270_0)).trans hx270_0
                                                            replace hx270_1 := (HB.out.cell (World.block_lt_of_cell? w _ hx270_1)).trans hx270_1
                                                            replace hx270_2 := (HB.out.cell (World.block_lt_of_cell? w _ hx270_2)).trans hx270_2
                                                            replace hx270_3 := (HB.out.cell (World.block_lt_of_cell? w _ hx270_3)).trans hx270_3
                                                            replace hx270_4 := (HB.out.cell (World.block_lt_of_cell? w _ hx270_4)).trans hx270_4
                                                            replace hx270_5 := (HB.out.cell (World.block_lt_of_cell? w _ hx270_5)).trans hx270_5
                                                            replace hx270_6 := (HB.out.cell (World.block_lt_of_cell? w _ hx270_6)).trans hx270_6
                                                            replace p270 := eq_true p270
                                                            replace q270 := eq_true q270
                                                            refine start_ (n := 11) (S := fun w' => w'.cell? ⟨gb245, 0, none⟩ = some (.int .i64 a2_0) ∧ w'.cell? ⟨gb245, 1, none⟩ = some (.int .i64 a2_1) ∧ w'.cell? ⟨gb245, 2, none⟩ = some (.int .i64 a2_2) ∧ w'.cell? (ad265.add ((x61_4).toNat * 7)) = some (.int .i64 ((rd_T27 l0 x61_4).f0.f0)) ∧ w'.cell? ⟨(ad265.add ((x61_4).toNat * 7)).block, (ad265.add ((x61_4).toNat * 7)).off + 1, none⟩ = some (.int .i64 ((rd_T27 l0 x61_4).f0.f1)) ∧ w'.cell? ⟨(ad265.add ((x61_4).toNat * 7)).block, (ad265.add ((x61_4).toNat * 7)).off + 2, none⟩ = some (.int .i64 ((rd_T27 l0 x61_4).f1.f0)) ∧ w'.cell? ⟨(ad265.add ((x61_4).toNat * 7)).block, (ad265.add ((x61_4).toNat * 7)).off + 3, none⟩ = some (.int .i64 ((rd_T27 l0 x61_4).f1.f1)) ∧ w'.cell? ⟨(ad265.add ((x61_4).toNat * 7)).block, (ad265.add ((x61_4).toNat * 7)).off + 4, none⟩ = some (.int .i64 ((rd_T27 l0 x61_4).f2)) ∧ w'.cell? ⟨(ad265.add ((x61_4).toNat * 7)).block, (ad265.add ((x61_4).toNat * 7)).off + 5, none⟩ = some (.int .i64 ((rd_T27 l0 x61_4).f3)) ∧ w'.cell? ⟨(ad265.add ((x61_4).toNat * 7)).block, (ad265.add ((x61_4).toNat * 7)).off + 6, none⟩ = some (.bool ((rd_T27 l0 x61_4).f4))) (ds := []) #[false, false, false, false, false, false, false, false, false, false, false] (by kernel_rfl) rfl rfl ⟨(blk_cell BK245.out 0).trans rfl, (blk_cell BK245.out 1).trans rfl, (blk_cell BK245.out 2).trans rfl, ((HB.out.cell (World.block_lt_of_cell? w _ hw270_0)).trans hw270_0), ((HB.out.cell (World.block_lt_of_cell? w _ hw270_1)).trans hw270_1), ((HB.out.cell (World.block_lt_of_cell? w _ hw270_2)).trans hw270_2), ((HB.out.cell (World.block_lt_of_cell? w _ hw270_3)).trans hw270_3), ((HB.out.cell (World.block_lt_of_cell? w _ hw270_4)).trans hw270_4), ((HB.out.cell (World.block_lt_of_cell? w _ hw270_5)).trans hw270_5), ((HB.out.cell (World.block_lt_of_cell? w _ hw270_6)).trans hw270_6)⟩ (fun hHeld => ?_); refine with_tabW metrolablaw47_GaugeKeeps.tab22 metrolablaw47_GaugeKeeps.bits22 (fun HT_ HW_ => ?_)
                                                            generalize wc.drew = w76 at HO_7 HO_38 HO_59 BK244 BK245 BK264 HB hx270_0 hx270_1 hx270_2 hx270_3 hx270_4 hx270_5 hx270_6 hHeld ⊢
                                                            refine pure_ (i := 0) (N := some 110) (v := ?_) (a' := ?_) #[true, false, false, false, false, false, false, false, false, false, false] rfl rfl (any_of HT_.out (by kernel_rfl)) (fun _ _ _ h => h) (Or.inl ⟨by rfl, ?_⟩) ?_ ?_
                                                            rotate_left
                                                            · intro w'
                                                              go_simp
                                                              with_reducible rfl
                                                            rotate_left
                                                            · simp only [Act.put, List.setIfInBounds_toArray, List.set_cons_zero, List.set_cons_succ, i64_w, i32_w]
                                                              rfl
                                                            refine pure_ (i := 1) (N := some 111) (v := ?_) (a' := ?_) #[true, true, false, false, false, false, false, false, false, false, false] rfl rfl (any_of HT_.out (by kernel_rfl)) (fun _ _ _ h => h) (Or.inl ⟨by rfl, ?_⟩) ?_ ?_
                                                            rotate_left
                                                            · intro w'
                                                              go_simp
                                                              with_reducible rfl
                                                            rotate_left
                                                            · simp only [Act.put, List.setIfInBounds_toArray, List.set_cons_zero, List.set_cons_succ, i64_w, i32_w]
                                                              rfl
                                                            refine pure_ (i := 2) (N := some 112) (v := ?_) (a' := ?_) #[true, true, true, false, false, false, false, false, false, false, false] rfl rfl (any_of HT_.out (by kernel_rfl)) (fun _ _ _ h => h) (Or.inl ⟨by rfl, ?_⟩) ?_ ?_
                                                            rotate_left
                                                            · intro w'
                                                              go_simp
                                                              with_reducible rfl
                                                            rotate_left
                                                            · simp only [Act.put, List.setIfInBounds_toArray, List.set_cons_zero, List.set_cons_succ, i64_w, i32_w]
                                                              rfl
                                                            refine take_ (i := 3) (N := some 113) (v := ?_) (a' := ?_) #[true, true, true, true, false, false, false, false, false, false, false] rfl rfl (take_ofW HT_.out HW_.out (by kernel_rfl)) (fun _ _ _ h => h) (Or.inl ⟨by rfl, ?_⟩) hHeld ?_ ?_
                                                            rotate_left
                                                            · rintro w' ⟨s0, s1, s2, s3, s4, s5, s6, s7, s8, s9⟩
                                                              go_simp
                                                              with_reducible rfl
                                                            rotate_left
                                                            · simp only [Act.put, List.setIfInBounds_toArray, List.set_cons_zero, List.set_cons_succ, i64_w, i32_w]
                                                              rfl
                                                            refine take_ (i := 4) (N := some 114) (v := ?_) (a' := ?_) #[true, true, true, true, true, false, false, false, false, false, false] rfl rfl (take_ofW HT_.out HW_.out (by kernel_rfl)) (fun _ _ _ h => h) (Or.inl ⟨by rfl, ?_⟩) hHeld ?_ ?_
                                                            rotate_left
                                                            · rintro w' ⟨s0, s1, s2, s3, s4, s5, s6, s7, s8, s9⟩
                                                              go_simp
                                                              with_reducible rfl
                                                            rotate_left
                                                            · simp only [Act.put, List.setIfInBounds_toArray, List.set_cons_zero, List.set_cons_succ, i64_w, i32_w]
                                                              rfl
                                                            refine one_ (i := 5) (N := some 115) #[true, true, true, true, true, true, false, false, false, false, false] rfl rfl (one_of HT_.out (by kernel_rfl)) (by decide) (fun K hK => ?_)
                                                            refine goes_ Tryd.func45 (by kernel_rfl) rfl #[.agg #[.int .i64 ((rd_T27 l0 x61_4).f0.f0), .int .i64 ((rd_T27 l0 x61_4).f0.f1), .int .i64 ((rd_T27 l0 x61_4).f1.f0), .int .i64 ((rd_T27 l0 x61_4).f1.f1), .int .i64 ((rd_T27 l0 x61_4).f2), .int .i64 ((rd_T27 l0 x61_4).f3), .bool ((rd_T27 l0 x61_4).f4)], .agg #[.int .i64 a2_0, .int .i64 a2_1, .int .i64 a2_2]] (by rfl) rfl rfl (by (try simp only [List.map_toArray, List.map_cons, List.map_nil]); first | done | rfl | (simp only [List.length_drop, List.length_take]; rfl)) ?_
                                                            with_reducible refine (bonus_Keeps.calls kj55 ((rd_T27 l0 x61_4).f0.f0) ((rd_T27 l0 x61_4).f0.f1) ((rd_T27 l0 x61_4).f1.f0) ((rd_T27 l0 x61_4).f1.f1) ((rd_T27 l0 x61_4).f2) ((rd_T27 l0 x61_4).f3) ((rd_T27 l0 x61_4).f4) a2_0 a2_1 a2_2 false t272 _ A71.out (by exact sig_below HS.out (by repeat (first | (with_reducible first | exact HB.out | apply below_alloc | apply pw_below_drewN | apply below_drew1 | refine below_set ?_ GE244.out | refine below_set ?_ GE245.out | refine below_set ?_ GE264.out) | exact HB.out)))).mono ?_
                                                            rintro e w77 ⟨rfl, hb⟩
                                                            refine ⟨_, rfl, ?_⟩
                                                            have n0_ := Aside0.mk (Kd.R_below (by (with_reducible repeat (first | apply Kd.R_alloc | apply Kd.R_drewN | apply Kd.R_drew)); exact HO_7.out) hb)
                                                            have n1_ := Aside0.mk (Kd.R_below (by (with_reducible repeat (first | apply Kd.R_alloc | apply Kd.R_drewN | apply Kd.R_drew)); exact HO_38.out) hb)
                                                            have n2_ := Aside0.mk (Kd.R_below (by (with_reducible repeat (first | apply Kd.R_alloc | apply Kd.R_drewN | apply Kd.R_drew)); exact HO_59.out) hb)
                                                            have n3_ := Aside0.mk (blk_below (g := gb244) (o := .cells #[.int .i64 a1_0, .int .i64 a1_1] 44 (0, 0)) (by (with_reducible repeat (first | refine blk_drewN ?_ _ | refine blk_drew ?_ | refine blk_alloc ?_ _)); exact BK244.out) hb)
                                                            have n4_ := Aside0.mk (blk_below (g := gb245) (o := .cells #[.int .i64 a2_0, .int .i64 a2_1, .int .i64 a2_2] 68 (0, 0)) (by (with_reducible repeat (first | refine blk_drewN ?_ _ | refine blk_drew ?_ | refine blk_alloc ?_ _)); exact BK245.out) hb)
                                                            have n5_ := Aside0.mk (blk_below (g := gb264) (o := .cells #[.int .i64 ((rd_T56 t259 x61_4).f0.f0), .int .i64 ((rd_T56 t259 x61_4).f0.f1), .bool ((rd_T56 t259 x61_4).f1), .int .i64 ((rd_T56 t259 x61_4).f2)] 56 (0, 0)) (by (with_reducible repeat (first | refine blk_drewN ?_ _ | refine blk_drew ?_ | refine blk_alloc ?_ _)); exact BK264.out) hb)
                                                            have n6_ := Aside0.mk (below_step (by repeat (first | (with_reducible first | exact HB.out | apply below_alloc | apply pw_below_drewN | apply below_drew1 | refine below_set ?_ GE244.out | refine below_set ?_ GE245.out | refine below_set ?_ GE264.out) | exact HB.out)) hb)
                                                            clear HO_7
                                                            clear HO_38
                                                            clear HO_59
                                                            clear BK244
                                                            clear BK245
                                                            clear BK264
                                                            clear HB
                                                            have HO_7 := n0_
                                                            have HO_38 := n1_
                                                            have HO_59 := n2_
                                                            have BK244 := n3_
                                                            have BK245 := n4_
                                                            have BK264 := n5_
                                                            have HB := n6_
                                                            clear n0_ n1_ n2_ n3_ n4_ n5_ n6_
                                                            (try clear hb)
                                                            (try clear hb2)
                                                            (try clear hk)
                                                            (try clear hi)
                                                            refine hK.out _ _ ⟨(blk_cell BK245.out 0).trans rfl, (blk_cell BK245.out 1).trans rfl, (blk_cell BK245.out 2).trans rfl, ((HB.out.cell (World.block_lt_of_cell? w _ hw270_0)).trans hw270_0), ((HB.out.cell (World.block_lt_of_cell? w _ hw270_1)).trans hw270_1), ((HB.out.cell (World.block_lt_of_cell? w _ hw270_2)).trans hw270_2), ((HB.out.cell (World.block_lt_of_cell? w _ hw270_3)).trans hw270_3), ((HB.out.cell (World.block_lt_of_cell? w _ hw270_4)).trans hw270_4), ((HB.out.cell (World.block_lt_of_cell? w _ hw270_5)).trans hw270_5), ((HB.out.cell (World.block_lt_of_cell? w _ hw270_6)).trans hw270_6)⟩ (fun hHeld => ?_)
                                                            clear hK K
                                                            refine norm_ (a' := ?_) ?_ ?_
                                                            rotate_left
                                                            · show Act.put _ (some 115) _ = _
                                                              simp only [Act.put, List.setIfInBounds_toArray, List.set_cons_zero, List.set_cons_succ, i64_w, i32_w]
                                                              rfl
                                                            refine pure_ (i := 6) (N := some 109) (v := ?_) (a' := ?_) #[true, true, true, true, true, true, true, false, false, false, false] rfl rfl (any_of HT_.out (by kernel_rfl)) (fun _ _ _ h => h) (Or.inl ⟨by rfl, ?_⟩) ?_ ?_
                                                            rotate_left
                                                            · intro w'
                                                              go_simp
                                                              with_reducible rfl
                                                            rotate_left
                                                            · simp only [Act.put, List.setIfInBounds_toArray, List.set_cons_zero, List.set_cons_succ, i64_w, i32_w]
                                                              rfl
                                                            refine pure_ (i := 7) (N := some 116) (v := ?_) (a' := ?_) #[true, true, true, true, true, true, true, true, false, false, false] rfl rfl (any_of HT_.out (by kernel_rfl)) (fun _ _ _ h => h) (Or.inl ⟨by rfl, ?_⟩) ?_ ?_
                                                            rotate_left
                                                            · intro w'
                                                              go_simp
                                                              with_reducible rfl
                                                            rotate_left
                                                            · simp only [Act.put, List.setIfInBounds_toArray, List.set_cons_zero, List.set_cons_succ, i64_w, i32_w]
                                                              rfl
                                                            refine pure_ (i := 8) (N := some 117) (v := ?_) (a' := ?_) #[true, true, true, true, true, true, true, true, true, false, false] rfl rfl (any_of HT_.out (by kernel_rfl)) (fun _ _ _ h => h) (Or.inl ⟨by rfl, ?_⟩) ?_ ?_
                                                            rotate_left
                                                            · intro w'
                                                              go_simp
                                                              with_reducible rfl
                                                            rotate_left
                                                            · simp only [Act.put, List.setIfInBounds_toArray, List.set_cons_zero, List.set_cons_succ, i64_w, i32_w]
                                                              rfl
                                                            refine pure_ (i := 9) (N := some 18) (v := ?_) (a' := ?_) #[true, true, true, true, true, true, true, true, true, true, false] rfl rfl (any_of HT_.out (by kernel_rfl)) (fun _ _ _ h => h) (Or.inl ⟨by rfl, ?_⟩) ?_ ?_
                                                            rotate_left
                                                            · intro w'
                                                              go_simp
                                                              with_reducible rfl
                                                            rotate_left
                                                            · simp only [Act.put, List.setIfInBounds_toArray, List.set_cons_zero, List.set_cons_succ, i64_w, i32_w]
                                                              rfl
                                                            refine pure_ (i := 10) (N := some 19) (v := ?_) (a' := ?_) #[true, true, true, true, true, true, true, true, true, true, true] rfl rfl (any_of HT_.out (by kernel_rfl)) (fun _ _ _ h => h) (Or.inl ⟨by rfl, ?_⟩) ?_ ?_
                                                            rotate_left
                                                            · intro w'
                                                              go_simp
                                                              with_reducible rfl
                                                            rotate_left
                                                            · simp only [Act.put, List.setIfInBounds_toArray, List.set_cons_zero, List.set_cons_succ, i64_w, i32_w]
                                                              rfl
                                                            refine done_ (done_of HT_.out (by kernel_rfl)) ?_
                                                            try go_wp2
                                                            go_ret
                                                            exact ⟨by first | rfl | (simp [errW_none, errW_some] <;> rfl) | (simp [*, errW_none, errW_some] <;> rfl), by repeat (first | (with_reducible first | exact HB.out | apply below_alloc | apply pw_below_drewN | apply below_drew1 | refine below_set ?_ GE244.out | refine below_set ?_ GE245.out | refine below_set ?_ GE264.out) | exact HB.out)⟩
                                                        · rw [if_neg c72] at H
                                                          have c72b0 : (t272 == 0) = false := beq_eq_false_iff_ne.mpr c72
                                                          have c72b1 : (t272 != 0) = true := bne_iff_ne.mpr c72
                                                          obtain rfl := Option.some.inj H
                                                          try go_wp2
                                                          have n0_ := Aside0.mk (Kd.R_drew HO_7.out)
                                                          have n1_ := Aside0.mk (Kd.R_drew HO_38.out)
                                                          have n2_ := Aside0.mk (Kd.R_drew HO_59.out)
                                                          have n3_ := Aside0.mk (blk_drew BK244.out)
                                                          have n4_ := Aside0.mk (blk_drew BK245.out)
                                                          have n5_ := Aside0.mk (blk_drew BK264.out)
                                                          have n6_ := Aside0.mk (below_drew1 HB.out)
                                                          clear HO_7
                                                          clear HO_38
                                                          clear HO_59
                                                          clear BK244
                                                          clear BK245
                                                          clear BK264
                                                          clear HB
                                                          have HO_7 := n0_
                                                          have HO_38 := n1_
                                                          have HO_59 := n2_
                                                          have BK244 := n3_
                                                          have BK245 := n4_
                                                          have BK264 := n5_
                                                          have HB := n6_
                                                          clear n0_ n1_ n2_ n3_ n4_ n5_ n6_
                                                          have p270 : 0 ≤ (x61_4 : Int) := of_decide_eq_true (by first | (with_reducible assumption) | assumption)
                                                          have q270 : x61_4 < (l0.length : Int) := of_decide_eq_true (by first | (with_reducible assumption) | assumption)
                                                          obtain ⟨ad270, e270, hx270_0, hx270_1, hx270_2, hx270_3, hx270_4, hx270_5, hx270_6⟩ := at_T27 HR0.out x61_4 p270 q270
                                                          have hw270_6 := hx270_6
                                                          have hw270_5 := hx270_5
                                                          have hw270_4 := hx270_4
                                                          have hw270_3 := hx270_3
                                                          have hw270_2 := hx270_2
                                                          have hw270_1 := hx270_1
                                                          have hw270_0 := hx270_0
                                                          obtain rfl : ad265 = ad270 := (by injection e270)
                                                          replace hx270_0 := (HB.out.cell (World.block_lt_of_cell? w _ hx270_0)).trans hx270_0
                                                          replace hx270_1 := (HB.out.cell (World.block_lt_of_cell? w _ hx270_1)).trans hx270_1
                                                          replace hx270_2 := (HB.out.cell (World.block_lt_of_cell? w _ hx270_2)).trans hx270_2
                                                          replace hx270_3 := (HB.out.cell (World.block_lt_of_cell? w _ hx270_3)).trans hx270_3
                                                          replace hx270_4 := (HB.out.cell (World.block_lt_of_cell? w _ hx270_4)).trans hx270_4
                                                          replace hx270_5 := (HB.out.cell (World.block_lt_of_cell? w _ hx270_5)).trans hx270_5
                                                          replace hx270_6 := (HB.out.cell (World.block_lt_of_cell? w _ hx270_6)).trans hx270_6
                                                          replace p270 := eq_true p270
                                                          replace q270 := eq_true q270
                                                          refine start_ (n := 11) (S := fun w' => w'.cell? ⟨gb245, 0, none⟩ = some (.int .i64 a2_0) ∧ w'.cell? ⟨gb245, 1, none⟩ = some (.int .i64 a2_1) ∧ w'.cell? ⟨gb245, 2, none⟩ = some (.int .i64 a2_2) ∧ w'.cell? (ad265.add ((x61_4).toNat * 7)) = some (.int .i64 ((rd_T27 l0 x61_4).f0.f0)) ∧ w'.cell? ⟨(ad265.add ((x61_4).toNat * 7)).block, (ad265.add ((x61_4).toNat * 7)).off + 1, none⟩ = some (.int .i64 ((rd_T27 l0 x61_4).f0.f1)) ∧ w'.cell? ⟨(ad265.add ((x61_4).toNat * 7)).block, (ad265.add ((x61_4).toNat * 7)).off + 2, none⟩ = some (.int .i64 ((rd_T27 l0 x61_4).f1.f0)) ∧ w'.cell? ⟨(ad265.add ((x61_4).toNat * 7)).block, (ad265.add ((x61_4).toNat * 7)).off + 3, none⟩ = some (.int .i64 ((rd_T27 l0 x61_4).f1.f1)) ∧ w'.cell? ⟨(ad265.add ((x61_4).toNat * 7)).block, (ad265.add ((x61_4).toNat * 7)).off + 4, none⟩ = some (.int .i64 ((rd_T27 l0 x61_4).f2)) ∧ w'.cell? ⟨(ad265.add ((x61_4).toNat * 7)).block, (ad265.add ((x61_4).toNat * 7)).off + 5, none⟩ = some (.int .i64 ((rd_T27 l0 x61_4).f3)) ∧ w'.cell? ⟨(ad265.add ((x61_4).toNat * 7)).block, (ad265.add ((x61_4).toNat * 7)).off + 6, none⟩ = some (.bool ((rd_T27 l0 x61_4).f4))) (ds := []) #[false, false, false, false, false, false, false, false, false, false, false] (by kernel_rfl) rfl rfl ⟨(blk_cell BK245.out 0).trans rfl, (blk_cell BK245.out 1).trans rfl, (blk_cell BK245.out 2).trans rfl, ((HB.out.cell (World.block_lt_of_cell? w _ hw270_0)).trans hw270_0), ((HB.out.cell (World.block_lt_of_cell? w _ hw270_1)).trans hw270_1), ((HB.out.cell (World.block_lt_of_cell? w _ hw270_2)).trans hw270_2), ((HB.out.cell (World.block_lt_of_cell? w _ hw270_3)).trans hw270_3), ((HB.out.cell (World.block_lt_of_cell? w _ hw270_4)).trans hw270_4), ((HB.out.cell (World.block_lt_of_cell? w _ hw270_5)).trans hw270_5), ((HB.out.cell (World.block_lt_of_cell? w _ hw270_6)).trans hw270_6)⟩ (fun hHeld => ?_); refine with_tabW metrolablaw47_GaugeKeeps.tab22 metrolablaw47_GaugeKeeps.bits22 (fun HT_ HW_ => ?_)
                                                          generalize wc.drew = w78 at HO_7 HO_38 HO_59 BK244 BK245 BK264 HB hx270_0 hx270_1 hx270_2 hx270_3 hx270_4 hx270_5 hx270_6 hHeld ⊢
                                                          refine pure_ (i := 0) (N := some 110) (v := ?_) (a' := ?_) #[true, false, false, false, false, false, false, false, false, false, false] rfl rfl (any_of HT_.out (by kernel_rfl)) (fun _ _ _ h => h) (Or.inl ⟨by rfl, ?_⟩) ?_ ?_
                                                          rotate_left
                                                          · intro w'
                                                            go_simp
                                                            with_reducible rfl
                                                          rotate_left
                                                          · simp only [Act.put, List.setIfInBounds_toArray, List.set_cons_zero, List.set_cons_succ, i64_w, i32_w]
                                                            rfl
                                                          refine pure_ (i := 1) (N := some 111) (v := ?_) (a' := ?_) #[true, true, false, false, false, false, false, false, false, false, false] rfl rfl (any_of HT_.out (by kernel_rfl)) (fun _ _ _ h => h) (Or.inl ⟨by rfl, ?_⟩) ?_ ?_
                                                          rotate_left
                                                          · intro w'
                                                            go_simp
                                                            with_reducible rfl
                                                          rotate_left
                                                          · simp only [Act.put, List.setIfInBounds_toArray, List.set_cons_zero, List.set_cons_succ, i64_w, i32_w]
                                                            rfl
                                                          refine pure_ (i := 2) (N := some 112) (v := ?_) (a' := ?_) #[true, true, true, false, false, false, false, false, false, false, false] rfl rfl (any_of HT_.out (by kernel_rfl)) (fun _ _ _ h => h) (Or.inl ⟨by rfl, ?_⟩) ?_ ?_
                                                          rotate_left
                                                          · intro w'
                                                            go_simp
                                                            with_reducible rfl
                                                          rotate_left
                                                          · simp only [Act.put, List.setIfInBounds_toArray, List.set_cons_zero, List.set_cons_succ, i64_w, i32_w]
                                                            rfl
                                                          refine take_ (i := 3) (N := some 113) (v := ?_) (a' := ?_) #[true, true, true, true, false, false, false, false, false, false, false] rfl rfl (take_ofW HT_.out HW_.out (by kernel_rfl)) (fun _ _ _ h => h) (Or.inl ⟨by rfl, ?_⟩) hHeld ?_ ?_
                                                          rotate_left
                                                          · rintro w' ⟨s0, s1, s2, s3, s4, s5, s6, s7, s8, s9⟩
                                                            go_simp
                                                            with_reducible rfl
                                                          rotate_left
                                                          · simp only [Act.put, List.setIfInBounds_toArray, List.set_cons_zero, List.set_cons_succ, i64_w, i32_w]
                                                            rfl
                                                          refine take_ (i := 4) (N := some 114) (v := ?_) (a' := ?_) #[true, true, true, true, true, false, false, false, false, false, false] rfl rfl (take_ofW HT_.out HW_.out (by kernel_rfl)) (fun _ _ _ h => h) (Or.inl ⟨by rfl, ?_⟩) hHeld ?_ ?_
                                                          rotate_left
                                                          · rintro w' ⟨s0, s1, s2, s3, s4, s5, s6, s7, s8, s9⟩
                                                            go_simp
                                                            with_reducible rfl
                                                          rotate_left
                                                          · simp only [Act.put, List.setIfInBounds_toArray, List.set_cons_zero, List.set_cons_succ, i64_w, i32_w]
                                                            rfl
                                                          refine one_ (i := 5) (N := some 115) #[true, true, true, true, true, true, false, false, false, false, false] rfl rfl (one_of HT_.out (by kernel_rfl)) (by decide) (fun K hK => ?_)
                                                          refine goes_ Tryd.func45 (by kernel_rfl) rfl #[.agg #[.int .i64 ((rd_T27 l0 x61_4).f0.f0), .int .i64 ((rd_T27 l0 x61_4).f0.f1), .int .i64 ((rd_T27 l0 x61_4).f1.f0), .int .i64 ((rd_T27 l0 x61_4).f1.f1), .int .i64 ((rd_T27 l0 x61_4).f2), .int .i64 ((rd_T27 l0 x61_4).f3), .bool ((rd_T27 l0 x61_4).f4)], .agg #[.int .i64 a2_0, .int .i64 a2_1, .int .i64 a2_2]] (by rfl) rfl rfl (by (try simp only [List.map_toArray, List.map_cons, List.map_nil]); first | done | rfl | (simp only [List.length_drop, List.length_take]; rfl)) ?_
                                                          with_reducible refine (bonus_Keeps.calls kj55 ((rd_T27 l0 x61_4).f0.f0) ((rd_T27 l0 x61_4).f0.f1) ((rd_T27 l0 x61_4).f1.f0) ((rd_T27 l0 x61_4).f1.f1) ((rd_T27 l0 x61_4).f2) ((rd_T27 l0 x61_4).f3) ((rd_T27 l0 x61_4).f4) a2_0 a2_1 a2_2 t271 t272 _ A71.out (by exact sig_below HS.out (by repeat (first | (with_reducible first | exact HB.out | apply below_alloc | apply pw_below_drewN | apply below_drew1 | refine below_set ?_ GE244.out | refine below_set ?_ GE245.out | refine below_set ?_ GE264.out) | exact HB.out)))).mono ?_
                                                          rintro e w79 ⟨rfl, hb⟩
                                                          refine ⟨_, rfl, ?_⟩
                                                          have n0_ := Aside0.mk (Kd.R_below (by (with_reducible repeat (first | apply Kd.R_alloc | apply Kd.R_drewN | apply Kd.R_drew)); exact HO_7.out) hb)
                                                          have n1_ := Aside0.mk (Kd.R_below (by (with_reducible repeat (first | apply Kd.R_alloc | apply Kd.R_drewN | apply Kd.R_drew)); exact HO_38.out) hb)
                                                          have n2_ := Aside0.mk (Kd.R_below (by (with_reducible repeat (first | apply Kd.R_alloc | apply Kd.R_drewN | apply Kd.R_drew)); exact HO_59.out) hb)
                                                          have n3_ := Aside0.mk (blk_below (g := gb244) (o := .cells #[.int .i64 a1_0, .int .i64 a1_1] 44 (0, 0)) (by (with_reducible repeat (first | refine blk_drewN ?_ _ | refine blk_drew ?_ | refine blk_alloc ?_ _)); exact BK244.out) hb)
                                                          have n4_ := Aside0.mk (blk_below (g := gb245) (o := .cells #[.int .i64 a2_0, .int .i64 a2_1, .int .i64 a2_2] 68 (0, 0)) (by (with_reducible repeat (first | refine blk_drewN ?_ _ | refine blk_drew ?_ | refine blk_alloc ?_ _)); exact BK245.out) hb)
                                                          have n5_ := Aside0.mk (blk_below (g := gb264) (o := .cells #[.int .i64 ((rd_T56 t259 x61_4).f0.f0), .int .i64 ((rd_T56 t259 x61_4).f0.f1), .bool ((rd_T56 t259 x61_4).f1), .int .i64 ((rd_T56 t259 x61_4).f2)] 56 (0, 0)) (by (with_reducible repeat (first | refine blk_drewN ?_ _ | refine blk_drew ?_ | refine blk_alloc ?_ _)); exact BK264.out) hb)
                                                          have n6_ := Aside0.mk (below_step (by repeat (first | (with_reducible first | exact HB.out | apply below_alloc | apply pw_below_drewN | apply below_drew1 | refine below_set ?_ GE244.out | refine below_set ?_ GE245.out | refine below_set ?_ GE264.out) | exact HB.out)) hb)
                                                          clear HO_7
                                                          clear HO_38
                                                          clear HO_59
                                                          clear BK244
                                                          clear BK245
                                                          clear BK264
                                                          clear HB
                                                          have HO_7 := n0_
                                                          have HO_38 := n1_
                                                          have HO_59 := n2_
                                                          have BK244 := n3_
                                                          have BK245 := n4_
                                                          have BK264 := n5_
                                                          have HB := n6_
                                                          clear n0_ n1_ n2_ n3_ n4_ n5_ n6_
                                                          (try clear hb)
                                                          (try clear hb2)
                                                          (try clear hk)
                                                          (try clear hi)
                                                          refine hK.out _ _ ⟨(blk_cell BK245.out 0).trans rfl, (blk_cell BK245.out 1).trans rfl, (blk_cell BK245.out 2).trans rfl, ((HB.out.cell (World.block_lt_of_cell? w _ hw270_0)).trans hw270_0), ((HB.out.cell (World.block_lt_of_cell? w _ hw270_1)).trans hw270_1), ((HB.out.cell (World.block_lt_of_cell? w _ hw270_2)).trans hw270_2), ((HB.out.cell (World.block_lt_of_cell? w _ hw270_3)).trans hw270_3), ((HB.out.cell (World.block_lt_of_cell? w _ hw270_4)).trans hw270_4), ((HB.out.cell (World.block_lt_of_cell? w _ hw270_5)).trans hw270_5), ((HB.out.cell (World.block_lt_of_cell? w _ hw270_6)).trans hw270_6)⟩ (fun hHeld => ?_)
                                                          clear hK K
                                                          refine norm_ (a' := ?_) ?_ ?_
                                                          rotate_left
                                                          · show Act.put _ (some 115) _ = _
                                                            simp only [Act.put, List.setIfInBounds_toArray, List.set_cons_zero, List.set_cons_succ, i64_w, i32_w]
                                                            rfl
                                                          refine pure_ (i := 6) (N := some 109) (v := ?_) (a' := ?_) #[true, true, true, true, true, true, true, false, false, false, false] rfl rfl (any_of HT_.out (by kernel_rfl)) (fun _ _ _ h => h) (Or.inl ⟨by rfl, ?_⟩) ?_ ?_
                                                          rotate_left
                                                          · intro w'
                                                            go_simp
                                                            with_reducible rfl
                                                          rotate_left
                                                          · simp only [Act.put, List.setIfInBounds_toArray, List.set_cons_zero, List.set_cons_succ, i64_w, i32_w]
                                                            rfl
                                                          refine pure_ (i := 7) (N := some 116) (v := ?_) (a' := ?_) #[true, true, true, true, true, true, true, true, false, false, false] rfl rfl (any_of HT_.out (by kernel_rfl)) (fun _ _ _ h => h) (Or.inl ⟨by rfl, ?_⟩) ?_ ?_
                                                          rotate_left
                                                          · intro w'
                                                            go_simp
                                                            with_reducible rfl
                                                          rotate_left
                                                          · simp only [Act.put, List.setIfInBounds_toArray, List.set_cons_zero, List.set_cons_succ, i64_w, i32_w]
                                                            rfl
                                                          refine pure_ (i := 8) (N := some 117) (v := ?_) (a' := ?_) #[true, true, true, true, true, true, true, true, true, false, false] rfl rfl (any_of HT_.out (by kernel_rfl)) (fun _ _ _ h => h) (Or.inl ⟨by rfl, ?_⟩) ?_ ?_
                                                          rotate_left
                                                          · intro w'
                                                            go_simp
                                                            with_reducible rfl
                                                          rotate_left
                                                          · simp only [Act.put, List.setIfInBounds_toArray, List.set_cons_zero, List.set_cons_succ, i64_w, i32_w]
                                                            rfl
                                                          refine pure_ (i := 9) (N := some 18) (v := ?_) (a' := ?_) #[true, true, true, true, true, true, true, true, true, true, false] rfl rfl (any_of HT_.out (by kernel_rfl)) (fun _ _ _ h => h) (Or.inl ⟨by rfl, ?_⟩) ?_ ?_
                                                          rotate_left
                                                          · intro w'
                                                            go_simp
                                                            with_reducible rfl
                                                          rotate_left
                                                          · simp only [Act.put, List.setIfInBounds_toArray, List.set_cons_zero, List.set_cons_succ, i64_w, i32_w]
                                                            rfl
                                                          refine pure_ (i := 10) (N := some 19) (v := ?_) (a' := ?_) #[true, true, true, true, true, true, true, true, true, true, true] rfl rfl (any_of HT_.out (by kernel_rfl)) (fun _ _ _ h => h) (Or.inl ⟨by rfl, ?_⟩) ?_ ?_
                                                          rotate_left
                                                          · intro w'
                                                            go_simp
                                                            with_reducible rfl
                                                          rotate_left
                                                          · simp only [Act.put, List.setIfInBounds_toArray, List.set_cons_zero, List.set_cons_succ, i64_w, i32_w]
                                                            rfl
                                                          refine done_ (done_of HT_.out (by kernel_rfl)) ?_
                                                          try go_wp2
                                                          go_ret
                                                          exact ⟨by first | rfl | (simp [errW_none, errW_some] <;> rfl) | (simp [*, errW_none, errW_some] <;> rfl), by repeat (first | (with_reducible first | exact HB.out | apply below_alloc | apply pw_below_drewN | apply below_drew1 | refine below_set ?_ GE244.out | refine below_set ?_ GE245.out | refine below_set ?_ GE264.out) | exact HB.out)⟩
                                                      · rw [if_neg c70] at H
                                                        exact absurd H (by simp)
                                                    · rw [if_neg c69] at H
                                                      exact absurd H (by simp)
                                            · rw [if_neg c55] at H
                                              have c55b0 : (t267 == 0) = false := beq_eq_false_iff_ne.mpr c55
                                              have c55b1 : (t267 != 0) = true := bne_iff_ne.mpr c55
                                              obtain rfl := Option.some.inj H
                                              try go_wp2
                                              have n0_ := Aside0.mk (Kd.R_drew HO_7.out)
                                              have n1_ := Aside0.mk (Kd.R_drew HO_38.out)
                                              have n2_ := Aside0.mk (Kd.R_drew HO_59.out)
                                              have n3_ := Aside0.mk (blk_drew BK244.out)
                                              have n4_ := Aside0.mk (blk_drew BK245.out)
                                              have n5_ := Aside0.mk (blk_drew BK264.out)
                                              have n6_ := Aside0.mk (below_drew1 HB.out)
                                              clear HO_7
                                              clear HO_38
                                              clear HO_59
                                              clear BK244
                                              clear BK245
                                              clear BK264
                                              clear HB
                                              have HO_7 := n0_
                                              have HO_38 := n1_
                                              have HO_59 := n2_
                                              have BK244 := n3_
                                              have BK245 := n4_
                                              have BK264 := n5_
                                              have HB := n6_
                                              clear n0_ n1_ n2_ n3_ n4_ n5_ n6_
                                              have p265 : 0 ≤ (x61_4 : Int) := of_decide_eq_true (by first | (with_reducible assumption) | assumption)
                                              have q265 : x61_4 < (l0.length : Int) := of_decide_eq_true (by first | (with_reducible assumption) | assumption)
                                              obtain ⟨ad265, e265, hx265_0, hx265_1, hx265_2, hx265_3, hx265_4, hx265_5, hx265_6⟩ := at_T27 HR0.out x61_4 p265 q265
                                              have hw265_6 := hx265_6
                                              have hw265_5 := hx265_5
                                              have hw265_4 := hx265_4
                                              have hw265_3 := hx265_3
                                              have hw265_2 := hx265_2
                                              have hw265_1 := hx265_1
                                              have hw265_0 := hx265_0
                                              cases e265
                                              replace hx265_0 := (HB.out.cell (World.block_lt_of_cell? w _ hx265_0)).trans hx265_0
                                              replace hx265_1 := (HB.out.cell (World.block_lt_of_cell? w _ hx265_1)).trans hx265_1
                                              replace hx265_2 := (HB.out.cell (World.block_lt_of_cell? w _ hx265_2)).trans hx265_2
                                              replace hx265_3 := (HB.out.cell (World.block_lt_of_cell? w _ hx265_3)).trans hx265_3
                                              replace hx265_4 := (HB.out.cell (World.block_lt_of_cell? w _ hx265_4)).trans hx265_4
                                              replace hx265_5 := (HB.out.cell (World.block_lt_of_cell? w _ hx265_5)).trans hx265_5
                                              replace hx265_6 := (HB.out.cell (World.block_lt_of_cell? w _ hx265_6)).trans hx265_6
                                              replace p265 := eq_true p265
                                              replace q265 := eq_true q265
                                              refine start_ (n := 11) (S := fun w' => w'.cell? ⟨gb245, 0, none⟩ = some (.int .i64 a2_0) ∧ w'.cell? ⟨gb245, 1, none⟩ = some (.int .i64 a2_1) ∧ w'.cell? ⟨gb245, 2, none⟩ = some (.int .i64 a2_2) ∧ w'.cell? (ad265.add ((x61_4).toNat * 7)) = some (.int .i64 ((rd_T27 l0 x61_4).f0.f0)) ∧ w'.cell? ⟨(ad265.add ((x61_4).toNat * 7)).block, (ad265.add ((x61_4).toNat * 7)).off + 1, none⟩ = some (.int .i64 ((rd_T27 l0 x61_4).f0.f1)) ∧ w'.cell? ⟨(ad265.add ((x61_4).toNat * 7)).block, (ad265.add ((x61_4).toNat * 7)).off + 2, none⟩ = some (.int .i64 ((rd_T27 l0 x61_4).f1.f0)) ∧ w'.cell? ⟨(ad265.add ((x61_4).toNat * 7)).block, (ad265.add ((x61_4).toNat * 7)).off + 3, none⟩ = some (.int .i64 ((rd_T27 l0 x61_4).f1.f1)) ∧ w'.cell? ⟨(ad265.add ((x61_4).toNat * 7)).block, (ad265.add ((x61_4).toNat * 7)).off + 4, none⟩ = some (.int .i64 ((rd_T27 l0 x61_4).f2)) ∧ w'.cell? ⟨(ad265.add ((x61_4).toNat * 7)).block, (ad265.add ((x61_4).toNat * 7)).off + 5, none⟩ = some (.int .i64 ((rd_T27 l0 x61_4).f3)) ∧ w'.cell? ⟨(ad265.add ((x61_4).toNat * 7)).block, (ad265.add ((x61_4).toNat * 7)).off + 6, none⟩ = some (.bool ((rd_T27 l0 x61_4).f4))) (ds := []) #[false, false, false, false, false, false, false, false, false, false, false] (by kernel_rfl) rfl rfl ⟨(blk_cell BK245.out 0).trans rfl, (blk_cell BK245.out 1).trans rfl, (blk_cell BK245.out 2).trans rfl, ((HB.out.cell (World.block_lt_of_cell? w _ hw265_0)).trans hw265_0), ((HB.out.cell (World.block_lt_of_cell? w _ hw265_1)).trans hw265_1), ((HB.out.cell (World.block_lt_of_cell? w _ hw265_2)).trans hw265_2), ((HB.out.cell (World.block_lt_of_cell? w _ hw265_3)).trans hw265_3), ((HB.out.cell (World.block_lt_of_cell? w _ hw265_4)).trans hw265_4), ((HB.out.cell (World.block_lt_of_cell? w _ hw265_5)).trans hw265_5), ((HB.out.cell (World.block_lt_of_cell? w _ hw265_6)).trans hw265_6)⟩ (fun hHeld => ?_); refine with_tabW metrolablaw47_GaugeKeeps.tab18 metrolablaw47_GaugeKeeps.bits18 (fun HT_ HW_ => ?_)
                                              generalize wc.drew = w80 at HO_7 HO_38 HO_59 BK244 BK245 BK264 HB hx265_0 hx265_1 hx265_2 hx265_3 hx265_4 hx265_5 hx265_6 hHeld ⊢
                                              refine pure_ (i := 0) (N := some 79) (v := ?_) (a' := ?_) #[true, false, false, false, false, false, false, false, false, false, false] rfl rfl (any_of HT_.out (by kernel_rfl)) (fun _ _ _ h => h) (Or.inl ⟨by rfl, ?_⟩) ?_ ?_
                                              rotate_left
                                              · intro w'
                                                go_simp
                                                with_reducible rfl
                                              rotate_left
                                              · simp only [Act.put, List.setIfInBounds_toArray, List.set_cons_zero, List.set_cons_succ, i64_w, i32_w]
                                                rfl
                                              refine pure_ (i := 1) (N := some 80) (v := ?_) (a' := ?_) #[true, true, false, false, false, false, false, false, false, false, false] rfl rfl (any_of HT_.out (by kernel_rfl)) (fun _ _ _ h => h) (Or.inl ⟨by rfl, ?_⟩) ?_ ?_
                                              rotate_left
                                              · intro w'
                                                go_simp
                                                with_reducible rfl
                                              rotate_left
                                              · simp only [Act.put, List.setIfInBounds_toArray, List.set_cons_zero, List.set_cons_succ, i64_w, i32_w]
                                                rfl
                                              refine pure_ (i := 2) (N := some 81) (v := ?_) (a' := ?_) #[true, true, true, false, false, false, false, false, false, false, false] rfl rfl (any_of HT_.out (by kernel_rfl)) (fun _ _ _ h => h) (Or.inl ⟨by rfl, ?_⟩) ?_ ?_
                                              rotate_left
                                              · intro w'
                                                go_simp
                                                with_reducible rfl
                                              rotate_left
                                              · simp only [Act.put, List.setIfInBounds_toArray, List.set_cons_zero, List.set_cons_succ, i64_w, i32_w]
                                                rfl
                                              refine take_ (i := 3) (N := some 82) (v := ?_) (a' := ?_) #[true, true, true, true, false, false, false, false, false, false, false] rfl rfl (take_ofW HT_.out HW_.out (by kernel_rfl)) (fun _ _ _ h => h) (Or.inl ⟨by rfl, ?_⟩) hHeld ?_ ?_
                                              rotate_left
                                              · rintro w' ⟨s0, s1, s2, s3, s4, s5, s6, s7, s8, s9⟩
                                                go_simp
                                                with_reducible rfl
                                              rotate_left
                                              · simp only [Act.put, List.setIfInBounds_toArray, List.set_cons_zero, List.set_cons_succ, i64_w, i32_w]
                                                rfl
                                              refine take_ (i := 4) (N := some 83) (v := ?_) (a' := ?_) #[true, true, true, true, true, false, false, false, false, false, false] rfl rfl (take_ofW HT_.out HW_.out (by kernel_rfl)) (fun _ _ _ h => h) (Or.inl ⟨by rfl, ?_⟩) hHeld ?_ ?_
                                              rotate_left
                                              · rintro w' ⟨s0, s1, s2, s3, s4, s5, s6, s7, s8, s9⟩
                                                go_simp
                                                with_reducible rfl
                                              rotate_left
                                              · simp only [Act.put, List.setIfInBounds_toArray, List.set_cons_zero, List.set_cons_succ, i64_w, i32_w]
                                                rfl
                                              refine one_ (i := 5) (N := some 84) #[true, true, true, true, true, true, false, false, false, false, false] rfl rfl (one_of HT_.out (by kernel_rfl)) (by decide) (fun K hK => ?_)
                                              refine goes_ Tryd.func43 (by kernel_rfl) rfl #[.agg #[.int .i64 ((rd_T27 l0 x61_4).f0.f0), .int .i64 ((rd_T27 l0 x61_4).f0.f1), .int .i64 ((rd_T27 l0 x61_4).f1.f0), .int .i64 ((rd_T27 l0 x61_4).f1.f1), .int .i64 ((rd_T27 l0 x61_4).f2), .int .i64 ((rd_T27 l0 x61_4).f3), .bool ((rd_T27 l0 x61_4).f4)], .agg #[.int .i64 a2_0, .int .i64 a2_1, .int .i64 a2_2]] (by rfl) rfl rfl (by (try simp only [List.map_toArray, List.map_cons, List.map_nil]); first | done | rfl | (simp only [List.length_drop, List.length_take]; rfl)) ?_
                                              with_reducible refine (bonus_Distance.calls kj37 ((rd_T27 l0 x61_4).f0.f0) ((rd_T27 l0 x61_4).f0.f1) ((rd_T27 l0 x61_4).f1.f0) ((rd_T27 l0 x61_4).f1.f1) ((rd_T27 l0 x61_4).f2) ((rd_T27 l0 x61_4).f3) ((rd_T27 l0 x61_4).f4) a2_0 a2_1 a2_2 t266 t267 _ A54.out).mono ?_
                                              rintro e w81 ⟨rfl, hb⟩
                                              refine ⟨_, rfl, ?_⟩
                                              have n0_ := Aside0.mk (Kd.R_below (by (with_reducible repeat (first | apply Kd.R_alloc | apply Kd.R_drewN | apply Kd.R_drew)); exact HO_7.out) hb)
                                              have n1_ := Aside0.mk (Kd.R_below (by (with_reducible repeat (first | apply Kd.R_alloc | apply Kd.R_drewN | apply Kd.R_drew)); exact HO_38.out) hb)
                                              have n2_ := Aside0.mk (Kd.R_below (by (with_reducible repeat (first | apply Kd.R_alloc | apply Kd.R_drewN | apply Kd.R_drew)); exact HO_59.out) hb)
                                              have n3_ := Aside0.mk (blk_below (g := gb244) (o := .cells #[.int .i64 a1_0, .int .i64 a1_1] 44 (0, 0)) (by (with_reducible repeat (first | refine blk_drewN ?_ _ | refine blk_drew ?_ | refine blk_alloc ?_ _)); exact BK244.out) hb)
                                              have n4_ := Aside0.mk (blk_below (g := gb245) (o := .cells #[.int .i64 a2_0, .int .i64 a2_1, .int .i64 a2_2] 68 (0, 0)) (by (with_reducible repeat (first | refine blk_drewN ?_ _ | refine blk_drew ?_ | refine blk_alloc ?_ _)); exact BK245.out) hb)
                                              have n5_ := Aside0.mk (blk_below (g := gb264) (o := .cells #[.int .i64 ((rd_T56 t259 x61_4).f0.f0), .int .i64 ((rd_T56 t259 x61_4).f0.f1), .bool ((rd_T56 t259 x61_4).f1), .int .i64 ((rd_T56 t259 x61_4).f2)] 56 (0, 0)) (by (with_reducible repeat (first | refine blk_drewN ?_ _ | refine blk_drew ?_ | refine blk_alloc ?_ _)); exact BK264.out) hb)
                                              have n6_ := Aside0.mk (below_step (by repeat (first | (with_reducible first | exact HB.out | apply below_alloc | apply pw_below_drewN | apply below_drew1 | refine below_set ?_ GE244.out | refine below_set ?_ GE245.out | refine below_set ?_ GE264.out) | exact HB.out)) hb)
                                              clear HO_7
                                              clear HO_38
                                              clear HO_59
                                              clear BK244
                                              clear BK245
                                              clear BK264
                                              clear HB
                                              have HO_7 := n0_
                                              have HO_38 := n1_
                                              have HO_59 := n2_
                                              have BK244 := n3_
                                              have BK245 := n4_
                                              have BK264 := n5_
                                              have HB := n6_
                                              clear n0_ n1_ n2_ n3_ n4_ n5_ n6_
                                              (try clear hb)
                                              (try clear hb2)
                                              (try clear hk)
                                              (try clear hi)
                                              refine hK.out _ _ ⟨(blk_cell BK245.out 0).trans rfl, (blk_cell BK245.out 1).trans rfl, (blk_cell BK245.out 2).trans rfl, ((HB.out.cell (World.block_lt_of_cell? w _ hw265_0)).trans hw265_0), ((HB.out.cell (World.block_lt_of_cell? w _ hw265_1)).trans hw265_1), ((HB.out.cell (World.block_lt_of_cell? w _ hw265_2)).trans hw265_2), ((HB.out.cell (World.block_lt_of_cell? w _ hw265_3)).trans hw265_3), ((HB.out.cell (World.block_lt_of_cell? w _ hw265_4)).trans hw265_4), ((HB.out.cell (World.block_lt_of_cell? w _ hw265_5)).trans hw265_5), ((HB.out.cell (World.block_lt_of_cell? w _ hw265_6)).trans hw265_6)⟩ (fun hHeld => ?_)
                                              clear hK K
                                              refine norm_ (a' := ?_) ?_ ?_
                                              rotate_left
                                              · show Act.put _ (some 84) _ = _
                                                simp only [Act.put, List.setIfInBounds_toArray, List.set_cons_zero, List.set_cons_succ, i64_w, i32_w]
                                                rfl
                                              refine pure_ (i := 6) (N := some 78) (v := ?_) (a' := ?_) #[true, true, true, true, true, true, true, false, false, false, false] rfl rfl (any_of HT_.out (by kernel_rfl)) (fun _ _ _ h => h) (Or.inl ⟨by rfl, ?_⟩) ?_ ?_
                                              rotate_left
                                              · intro w'
                                                go_simp
                                                with_reducible rfl
                                              rotate_left
                                              · simp only [Act.put, List.setIfInBounds_toArray, List.set_cons_zero, List.set_cons_succ, i64_w, i32_w]
                                                rfl
                                              refine pure_ (i := 7) (N := some 85) (v := ?_) (a' := ?_) #[true, true, true, true, true, true, true, true, false, false, false] rfl rfl (any_of HT_.out (by kernel_rfl)) (fun _ _ _ h => h) (Or.inl ⟨by rfl, ?_⟩) ?_ ?_
                                              rotate_left
                                              · intro w'
                                                go_simp
                                                with_reducible rfl
                                              rotate_left
                                              · simp only [Act.put, List.setIfInBounds_toArray, List.set_cons_zero, List.set_cons_succ, i64_w, i32_w]
                                                rfl
                                              refine pure_ (i := 8) (N := some 86) (v := ?_) (a' := ?_) #[true, true, true, true, true, true, true, true, true, false, false] rfl rfl (any_of HT_.out (by kernel_rfl)) (fun _ _ _ h => h) (Or.inl ⟨by rfl, ?_⟩) ?_ ?_
                                              rotate_left
                                              · intro w'
                                                go_simp
                                                with_reducible rfl
                                              rotate_left
                                              · simp only [Act.put, List.setIfInBounds_toArray, List.set_cons_zero, List.set_cons_succ, i64_w, i32_w]
                                                rfl
                                              refine pure_ (i := 9) (N := some 16) (v := ?_) (a' := ?_) #[true, true, true, true, true, true, true, true, true, true, false] rfl rfl (any_of HT_.out (by kernel_rfl)) (fun _ _ _ h => h) (Or.inl ⟨by rfl, ?_⟩) ?_ ?_
                                              rotate_left
                                              · intro w'
                                                go_simp
                                                with_reducible rfl
                                              rotate_left
                                              · simp only [Act.put, List.setIfInBounds_toArray, List.set_cons_zero, List.set_cons_succ, i64_w, i32_w]
                                                rfl
                                              refine pure_ (i := 10) (N := some 17) (v := ?_) (a' := ?_) #[true, true, true, true, true, true, true, true, true, true, true] rfl rfl (any_of HT_.out (by kernel_rfl)) (fun _ _ _ h => h) (Or.inl ⟨by rfl, ?_⟩) ?_ ?_
                                              rotate_left
                                              · intro w'
                                                go_simp
                                                with_reducible rfl
                                              rotate_left
                                              · simp only [Act.put, List.setIfInBounds_toArray, List.set_cons_zero, List.set_cons_succ, i64_w, i32_w]
                                                rfl
                                              refine done_ (done_of HT_.out (by kernel_rfl)) ?_
                                              try go_wp2
                                              go_ret
                                              exact ⟨by first | rfl | (simp [errW_none, errW_some] <;> rfl) | (simp [*, errW_none, errW_some] <;> rfl), by repeat (first | (with_reducible first | exact HB.out | apply below_alloc | apply pw_below_drewN | apply below_drew1 | refine below_set ?_ GE244.out | refine below_set ?_ GE245.out | refine below_set ?_ GE264.out) | exact HB.out)⟩
                                          · rw [if_neg c53] at H
                                            exact absurd H (by simp)
                                        · rw [if_neg c52] at H
                                          exact absurd H (by simp)
                                  · rw [if_neg c37] at H
                                    exact absurd H (by simp)
                                · rw [if_neg c36] at H
                                  exact absurd H (by simp)
                              · rw [if_neg c35] at H
                                have c35b0 : decide (x61_4 < (t259.length : Int)) = false := decide_eq_false c35
                                clear c35
                                have H' := Aside0.mk H
                                clear H
                                go_wp2
                                go_roundg k4
                                case measure => have := HJ3.out; have := HK2.out; have := HJ27.out; have := HK4.out; omega
                                case rel => exact ⟨(wrap64 (x40_2 + 1)), (by first | rfl | (simp; done) | (simp [*]; done)), H', ⟨by have := HJ3.out; have := HK2.out; have := HJ27.out; have := HK4.out; omega⟩, ⟨by (with_reducible repeat (first | apply Kd.R_alloc | apply Kd.R_drewN | apply Kd.R_drew)); exact HO_7.out⟩, ⟨by (with_reducible repeat (first | apply Kd.R_alloc | apply Kd.R_drewN | apply Kd.R_drew)); exact HO_38.out⟩, ⟨by (with_reducible repeat (first | refine blk_drewN ?_ _ | refine blk_drew ?_ | refine blk_alloc ?_ _)); exact BK244.out⟩, ⟨by (with_reducible repeat (first | refine blk_drewN ?_ _ | refine blk_drew ?_ | refine blk_alloc ?_ _)); exact BK245.out⟩, ⟨by repeat (first | (with_reducible first | exact HB.out | apply below_alloc | apply pw_below_drewN | apply below_drew1 | refine below_set ?_ GE244.out | refine below_set ?_ GE245.out) | exact HB.out)⟩⟩
                  · rw [if_neg c26] at H
                    exact absurd H (by simp)
                · rw [if_neg c25] at H
                  exact absurd H (by simp)
              · rw [if_neg c24] at H
                have c24b0 : decide (x40_2 < (y254.length : Int)) = false := decide_eq_false c24
                clear c24
                replace H := Option.bind_eq_some_iff.mp H
                obtain ⟨t257, A820, H⟩ := H
                replace H : (some t257) = some r := H
                have A82 := Aside0.mk A820
                clear A820
                obtain rfl := Option.some.inj H
                go_wp2_with (first | ((with_reducible refine gate_callee (f := 30) rfl ?_); refine goesL_ (some 126) rfl rfl Tryd.func30 (by kernel_rfl) rfl #[] rfl (by (try simp only [List.map_toArray, List.map_cons, List.map_nil]); first | done | rfl | (simp only [List.length_drop, List.length_take]; rfl)) ?_; (with_reducible refine (metrolablaw47_awake.calls k2  t257 _ A82.out (by exact sig_below HS.out (by repeat (first | (with_reducible first | exact HB.out | apply below_alloc | apply pw_below_drewN | apply below_drew1 | refine below_set ?_ GE244.out | refine below_set ?_ GE245.out | refine below_set ?_ GE264.out) | exact HB.out)))).mono ?_); rintro e w83 ⟨rfl, hb⟩; refine ⟨_, rfl, ?_⟩; have n0_ := Aside0.mk (Kd.R_below (by (with_reducible repeat (first | apply Kd.R_alloc | apply Kd.R_drewN | apply Kd.R_drew)); exact HO_7.out) hb); have n1_ := Aside0.mk (Kd.R_below (by (with_reducible repeat (first | apply Kd.R_alloc | apply Kd.R_drewN | apply Kd.R_drew)); exact HO_38.out) hb); have n2_ := Aside0.mk (blk_below (g := gb244) (o := .cells #[.int .i64 a1_0, .int .i64 a1_1] 44 (0, 0)) (by (with_reducible repeat (first | refine blk_drewN ?_ _ | refine blk_drew ?_ | refine blk_alloc ?_ _)); exact BK244.out) hb); have n3_ := Aside0.mk (blk_below (g := gb245) (o := .cells #[.int .i64 a2_0, .int .i64 a2_1, .int .i64 a2_2] 68 (0, 0)) (by (with_reducible repeat (first | refine blk_drewN ?_ _ | refine blk_drew ?_ | refine blk_alloc ?_ _)); exact BK245.out) hb); have n4_ := Aside0.mk (below_step (by repeat (first | (with_reducible first | exact HB.out | apply below_alloc | apply pw_below_drewN | apply below_drew1 | refine below_set ?_ GE244.out | refine below_set ?_ GE245.out) | exact HB.out)) hb); clear HO_7; clear HO_38; clear BK244; clear BK245; clear HB; have HO_7 := n0_; have HO_38 := n1_; have BK244 := n2_; have BK245 := n3_; have HB := n4_; clear n0_ n1_ n2_ n3_ n4_; (try clear hb); (try clear hb2); (try clear hk); (try clear hi)))
                go_ret
                exact ⟨by first | rfl | (simp [errW_none, errW_some] <;> rfl) | (simp [*, errW_none, errW_some] <;> rfl), by repeat (first | (with_reducible first | exact HB.out | apply below_alloc | apply pw_below_drewN | apply below_drew1 | refine below_set ?_ GE244.out | refine below_set ?_ GE245.out) | exact HB.out)⟩
        · rw [if_neg c17] at H
          have c17b0 : (t252 == 0) = false := beq_eq_false_iff_ne.mpr c17
          have c17b1 : (t252 != 0) = true := bne_iff_ne.mpr c17
          replace H := Option.bind_eq_some_iff.mp H
          obtain ⟨t253, A840, H⟩ := H
          replace H : (some t253) = some r := H
          have A84 := Aside0.mk A840
          clear A840
          obtain rfl := Option.some.inj H
          have hnb85 := NB244_245.out
          have hnc85 := NB245_244.out
          have hcz86_0 : wc.cell? ⟨gb244, 0, none⟩ = some (.int .i64 a1_0) := (blk_cell BK244.out 0).trans rfl
          have hcz86_1 : wc.cell? ⟨gb244, 1, none⟩ = some (.int .i64 a1_1) := (blk_cell BK244.out 1).trans rfl
          have hfz86_0 := blk_frozen BK244.out 0
          have hfz86_1 := blk_frozen BK244.out 1
          go_wp2_with (first | ((with_reducible refine gate_callee (f := 31) rfl ?_); refine goesL_ (some 32) rfl rfl Tryd.func31 (by kernel_rfl) rfl #[.slice A0 l0.length c0, .agg #[.int .i64 a1_0, .int .i64 a1_1]] rfl (by (try simp only [List.map_toArray, List.map_cons, List.map_nil]); first | done | rfl | (simp only [List.length_drop, List.length_take]; rfl)) ?_; (with_reducible refine (gauge_Design.calls kj3 _ _ l0 a1_0 a1_1 t249 t252 _ ?side1 ?side2 A16.out (by exact sig_below HS.out (by repeat (first | (with_reducible first | exact HB.out | apply below_alloc | apply pw_below_drewN | apply below_drew1 | refine below_set ?_ GE244.out | refine below_set ?_ GE245.out | refine below_set ?_ GE264.out) | exact HB.out)))).mono ?_); (case side1 => repeat (first | exact (Kd.C_below HR0.out HB.out) | (with_reducible refine Kd.C_alloc ?_ _) | (with_reducible refine Kd.C_drewN ?_ _) | (with_reducible refine Kd.C_drew ?_))); (case side2 => exact HC0.out); rintro e w87 ⟨v250, rfl, ho0, hb⟩; refine ⟨_, rfl, ?_⟩; have n0_ := Aside0.mk (Kd.R_lower ho0 (below_size (by repeat (first | (with_reducible first | exact HB.out | apply below_alloc | apply pw_below_drewN | apply below_drew1 | refine below_set ?_ GE244.out | refine below_set ?_ GE245.out) | exact HB.out)))); have n1_ := Aside0.mk (blk_below (g := gb244) (o := .cells #[.int .i64 a1_0, .int .i64 a1_1] 44 (0, 0)) (by (with_reducible repeat (first | refine blk_drewN ?_ _ | refine blk_drew ?_ | refine blk_alloc ?_ _)); exact BK244.out) hb); have n2_ := Aside0.mk (blk_below (g := gb245) (o := .cells #[.int .i64 a2_0, .int .i64 a2_1, .int .i64 a2_2] 68 (0, 0)) (by (with_reducible repeat (first | refine blk_drewN ?_ _ | refine blk_drew ?_ | refine blk_alloc ?_ _)); exact BK245.out) hb); have n3_ := Aside0.mk (below_step (by repeat (first | (with_reducible first | exact HB.out | apply below_alloc | apply pw_below_drewN | apply below_drew1 | refine below_set ?_ GE244.out | refine below_set ?_ GE245.out) | exact HB.out)) hb); clear BK244; clear BK245; clear HB; have HO251 := n0_; have BK244 := n1_; have BK245 := n2_; have HB := n3_; clear n0_ n1_ n2_ n3_; (try clear hb); (try clear hb2); (try clear hk); (try clear hi); (try clear ho0)) | ((with_reducible refine gate_callee (f := 30) rfl ?_); refine goesL_ (some 37) rfl rfl Tryd.func30 (by kernel_rfl) rfl #[] rfl (by (try simp only [List.map_toArray, List.map_cons, List.map_nil]); first | done | rfl | (simp only [List.length_drop, List.length_take]; rfl)) ?_; (with_reducible refine (metrolablaw47_awake.calls kj3  t253 _ A84.out (by exact sig_below HS.out (by repeat (first | (with_reducible first | exact HB.out | apply below_alloc | apply pw_below_drewN | apply below_drew1 | refine below_set ?_ GE244.out | refine below_set ?_ GE245.out | refine below_set ?_ GE264.out) | exact HB.out)))).mono ?_); rintro e w88 ⟨rfl, hb⟩; refine ⟨_, rfl, ?_⟩; have n0_ := Aside0.mk (Kd.R_below (by (with_reducible repeat (first | apply Kd.R_alloc | apply Kd.R_drewN | apply Kd.R_drew)); exact HO251.out) hb); have n1_ := Aside0.mk (blk_below (g := gb244) (o := .cells #[.int .i64 a1_0, .int .i64 a1_1] 44 (0, 0)) (by (with_reducible repeat (first | refine blk_drewN ?_ _ | refine blk_drew ?_ | refine blk_alloc ?_ _)); exact BK244.out) hb); have n2_ := Aside0.mk (blk_below (g := gb245) (o := .cells #[.int .i64 a2_0, .int .i64 a2_1, .int .i64 a2_2] 68 (0, 0)) (by (with_reducible repeat (first | refine blk_drewN ?_ _ | refine blk_drew ?_ | refine blk_alloc ?_ _)); exact BK245.out) hb); have n3_ := Aside0.mk (below_step (by repeat (first | (with_reducible first | exact HB.out | apply below_alloc | apply pw_below_drewN | apply below_drew1 | refine below_set ?_ GE244.out | refine below_set ?_ GE245.out) | exact HB.out)) hb); clear HO251; clear BK244; clear BK245; clear HB; have HO251 := n0_; have BK244 := n1_; have BK245 := n2_; have HB := n3_; clear n0_ n1_ n2_ n3_; (try clear hb); (try clear hb2); (try clear hk); (try clear hi)))
          go_ret
          exact ⟨by first | rfl | (simp [errW_none, errW_some] <;> rfl) | (simp [*, errW_none, errW_some] <;> rfl), by repeat (first | (with_reducible first | exact HB.out | apply below_alloc | apply pw_below_drewN | apply below_drew1 | refine below_set ?_ GE244.out | refine below_set ?_ GE245.out) | exact HB.out)⟩
end Go.Proofs.YtjemaonejkepcaaDoor.G
