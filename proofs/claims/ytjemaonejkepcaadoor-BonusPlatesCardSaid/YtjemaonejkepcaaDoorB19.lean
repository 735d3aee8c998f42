/- Contracts of the Go functions that a law reaches, written by a program of ours over the kit's printer; not trusted: Lean checks them. -/
import Derived.Test.YtjemaonejkepcaaDoorB0
import Derived.Test.YtjemaonejkepcaaDoorB1
import Derived.Test.YtjemaonejkepcaaDoorB10
namespace Go.Proofs.YtjemaonejkepcaaDoor.B
open Go.RowKit Go.Proofs.YtjemaonejkepcaaDoorW.PrintWords Go.Proofs.YtjemaonejkepcaaDoorW.PrintLast Go.Proofs.YtjemaonejkepcaaDoorW.PrintMore
attribute [local go_sem] max2_int min2_int max_two min_two max_three min_three max_four min_four   -- for this text's walks alone
set_option linter.unusedVariables false
set_option linter.unusedSimpArgs false

/-! ### metrolabref44_Few: function 50 -/
def metrolabref44_Few.f (l0 : List (S27)) (l1 : List (S68)) : Option (Bool) := if (l0.length : Int) ≤ 32 then (some (decide ((l1.length : Int) ≤ 32))) else (some false)
set_option maxHeartbeats 8000000 in
set_option maxRecDepth 100000 in
theorem metrolabref44_Few.calls (A0 : Option Addr) (c0 : Nat) (l0 : List (S27)) (A1 : Option Addr) (c1 : Nat) (l1 : List (S68)) (r : Bool) (w : World) (hr0 : Kd.C k27 w A0 l0.length l0) (hc0 : l0.length ≤ c0) (hr1 : Kd.C k68 w A1 l1.length l1) (hc1 : l1.length ≤ c1) (h : metrolabref44_Few.f l0 l1 = some r) :
    Calls Tryd.prog 50 #[.slice A0 l0.length c0, .slice A1 l1.length c1] w fun e w' => e = .returned (.bool r) ∧ Drawn0 w w' := by
  have HR0 := Aside0.mk hr0
  have HC0 := Aside0.mk hc0
  clear hr0 hc0
  have HR1 := Aside0.mk hr1
  have HC1 := Aside0.mk hc1
  clear hr1 hc1
  have H : (if (l0.length : Int) ≤ 32 then (some (decide ((l1.length : Int) ≤ 32))) else (some false)) = some r := h
  clear h
  by_cases c3 : (l0.length : Int) ≤ 32
  · rw [if_pos c3] at H
    have c3b0 : decide ((l0.length : Int) ≤ 32) = true := decide_eq_true c3
    have c3b1 : decide (l0.length ≤ 32) = true := decide_eq_true (by omega)
    clear c3
    obtain rfl := Option.some.inj H
    go_enter Tryd.func50, Tryd.ntmps50
    go_wp2
    go_ret
    exact ⟨by first | rfl | (simp; done) | (simp [*]; done), by repeat (first | exact Drawn0.refl _ | apply Drawn0.step)⟩
  · rw [if_neg c3] at H
    have c3b0 : decide ((l0.length : Int) ≤ 32) = false := decide_eq_false c3
    have c3b1 : decide (l0.length ≤ 32) = false := decide_eq_false (by omega)
    clear c3
    obtain rfl := Option.some.inj H
    go_enter Tryd.func50, Tryd.ntmps50
    go_wp2
    go_ret
    exact ⟨by first | rfl | (simp; done) | (simp [*]; done), by repeat (first | exact Drawn0.refl _ | apply Drawn0.step)⟩

/-! ### bonus_CheckPlate: function 53 -/
mutual
def bonus_CheckPlate.l0 : Nat → List (S27) → List (S68) → List (S27) → Int → Int → Option (Int)
  | 0, _, _, _, _, _ => none
  | k + 1, x0, x1, x14, x15, x16 => if x16 < x15 then (if 0 ≤ x16 then (if x16 < (x14.length : Int) then ((bonus_Check.f k ((rd_T27 x14 x16).f0.f0) ((rd_T27 x14 x16).f0.f1) ((rd_T27 x14 x16).f1.f0) ((rd_T27 x14 x16).f1.f1) ((rd_T27 x14 x16).f2) ((rd_T27 x14 x16).f3) ((rd_T27 x14 x16).f4)).bind fun t361 => (if t361 = 0 then (bonus_CheckPlate.l0 k x0 x1 x14 x15 (wrap64 (x16 + 1))) else (some t361))) else (none)) else (none)) else (if (x1.length : Int) = (x0.length : Int) then (bonus_CheckPlate.l1 k x1 (x1.length : Int) 0) else (some 8))
def bonus_CheckPlate.l1 : Nat → List (S68) → Int → Int → Option (Int)
  | 0, _, _, _ => none
  | k + 1, x31, x32, x33 => if x33 < x32 then (if 0 ≤ x33 then (if x33 < (x31.length : Int) then ((bonus_ring.f ((rd_T68 x31 x33).f0.f0) ((rd_T68 x31 x33).f0.f1) ((rd_T68 x31 x33).f1)).bind fun t364 => (if t364 = 0 then (bonus_CheckPlate.l1 k x31 x32 (wrap64 (x33 + 1))) else (some t364))) else (none)) else (none)) else (some 0)
end
def bonus_CheckPlate.f (k : Nat) (l0 : List (S27)) (l1 : List (S68)) : Option (Int) := if (l0.length : Int) > 16 then (some 5) else (bonus_CheckPlate.l0 k l0 l1 l0 (l0.length : Int) 0)
theorem bonus_CheckPlate.mono_l : ∀ k, (∀ y0 y1 y2 y3 y4, LeO (bonus_CheckPlate.l0 k y0 y1 y2 y3 y4) (bonus_CheckPlate.l0 (k + 1) y0 y1 y2 y3 y4)) ∧ (∀ y0 y1 y2, LeO (bonus_CheckPlate.l1 k y0 y1 y2) (bonus_CheckPlate.l1 (k + 1) y0 y1 y2))
  | 0 => ⟨fun _ _ _ _ _ r h => by simp [bonus_CheckPlate.l0] at h, fun _ _ _ r h => by simp [bonus_CheckPlate.l1] at h⟩
  | k + 1 => by
    obtain ⟨ih0, ih1⟩ := bonus_CheckPlate.mono_l k
    refine ⟨?_, ?_⟩
    · intro y0 y1 y2 y3 y4
      unfold bonus_CheckPlate.l0
      repeat' first
      | (with_reducible exact ih0 _ _ _ _ _)
      | (with_reducible exact ih1 _ _ _)
      | (with_reducible exact bonus_Check.mono _ _ _ _ _ _ _ _)
      | (with_reducible exact LeO.refl _)
      | (with_reducible exact LeO.none _)
      | (with_reducible refine LeO.ite ?_ ?_)
      | (with_reducible refine LeO.bind ?_ (fun _ => ?_))
      | exact ih0 _ _ _ _ _
      | exact ih1 _ _ _
      | exact bonus_Check.mono _ _ _ _ _ _ _ _
      | exact LeO.none _
      | refine LeO.ite ?_ ?_
      | refine LeO.bind ?_ (fun _ => ?_)
    · intro y0 y1 y2
      unfold bonus_CheckPlate.l1
      repeat' first
      | (with_reducible exact ih0 _ _ _ _ _)
      | (with_reducible exact ih1 _ _ _)
      | (with_reducible exact bonus_Check.mono _ _ _ _ _ _ _ _)
      | (with_reducible exact LeO.refl _)
      | (with_reducible exact LeO.none _)
      | (with_reducible refine LeO.ite ?_ ?_)
      | (with_reducible refine LeO.bind ?_ (fun _ => ?_))
      | exact ih0 _ _ _ _ _
      | exact ih1 _ _ _
      | exact bonus_Check.mono _ _ _ _ _ _ _ _
      | exact LeO.none _
      | refine LeO.ite ?_ ?_
      | refine LeO.bind ?_ (fun _ => ?_)
theorem bonus_CheckPlate.mono : ∀ a0 a1 k, LeO (bonus_CheckPlate.f k a0 a1) (bonus_CheckPlate.f (k + 1) a0 a1) := by
  intro a0 a1 k
  obtain ⟨ih0, ih1⟩ := bonus_CheckPlate.mono_l k
  unfold bonus_CheckPlate.f
  repeat' first
      | (with_reducible exact ih0 _ _ _ _ _)
      | (with_reducible exact ih1 _ _ _)
      | (with_reducible exact bonus_Check.mono _ _ _ _ _ _ _ _)
      | (with_reducible exact LeO.refl _)
      | (with_reducible exact LeO.none _)
      | (with_reducible refine LeO.ite ?_ ?_)
      | (with_reducible refine LeO.bind ?_ (fun _ => ?_))
      | exact ih0 _ _ _ _ _
      | exact ih1 _ _ _
      | exact bonus_Check.mono _ _ _ _ _ _ _ _
      | exact LeO.none _
      | refine LeO.ite ?_ ?_
      | refine LeO.bind ?_ (fun _ => ?_)
set_option maxHeartbeats 8000000 in
set_option maxRecDepth 100000 in
theorem bonus_CheckPlate.calls (k : Nat) (A0 : Option Addr) (c0 : Nat) (l0 : List (S27)) (A1 : Option Addr) (c1 : Nat) (l1 : List (S68)) (r : Int) (w : World) (hr0 : Kd.C k27 w A0 l0.length l0) (hc0 : l0.length ≤ c0) (hr1 : Kd.C k68 w A1 l1.length l1) (hc1 : l1.length ≤ c1) (h : bonus_CheckPlate.f k l0 l1 = some r) :
    Calls Tryd.prog 53 #[.slice A0 l0.length c0, .slice A1 l1.length c1] w fun e w' => e = .returned (.int .i64 r) ∧ Below w.heap.size w w' := by
  have hu27 := Tryd.underlying27
  have hu68 := Tryd.underlying68
  have HR0 := Aside0.mk hr0
  have HC0 := Aside0.mk hc0
  clear hr0 hc0
  have HR1 := Aside0.mk hr1
  have HC1 := Aside0.mk hc1
  clear hr1 hc1
  have HB := Aside0.mk (Below.refl w.heap.size w)
  have H : (if (l0.length : Int) > 16 then (some 5) else (bonus_CheckPlate.l0 k l0 l1 l0 (l0.length : Int) 0)) = some r := h
  clear h
  by_cases c3 : (l0.length : Int) > 16
  · rw [if_pos c3] at H
    have c3b0 : decide (16 < (l0.length : Int)) = true := decide_eq_true c3
    have c3b1 : decide (16 < l0.length) = true := decide_eq_true (by omega)
    clear c3
    obtain rfl := Option.some.inj H
    go_enter Tryd.func53, Tryd.ntmps53
    go_wp2
    go_ret
    exact ⟨by first | rfl | (simp [errW_none, errW_some] <;> rfl) | (simp [*, errW_none, errW_some] <;> rfl), by repeat (first | (with_reducible first | exact HB.out | apply below_alloc | apply pw_below_drewN | apply below_drew1) | exact HB.out)⟩
  · rw [if_neg c3] at H
    have c3b0 : decide (16 < (l0.length : Int)) = false := decide_eq_false c3
    have c3b1 : decide (16 < l0.length) = false := decide_eq_false (by omega)
    clear c3
    have H' := Aside0.mk H
    clear H
    go_enter Tryd.func53, Tryd.ntmps53
    go_wp2
    go_loopg [16] k (fun kq v16 w' => ∃ (x16_1 : Int), v16 = .int .i64 x16_1 ∧ Aside0 (bonus_CheckPlate.l0 kq l0 l1 l0 (l0.length : Int) x16_1 = some r) ∧ Aside0 (kq ≤ k) ∧ Aside0 (Below w.heap.size w w'))
    case atStart => exact ⟨(0), (by first | rfl | (simp; done) | (simp [*]; done)), H', ⟨Nat.le_refl _⟩, ⟨by repeat (first | (with_reducible first | exact HB.out | apply below_alloc | apply pw_below_drewN | apply below_drew1) | exact HB.out)⟩⟩
    case round =>
      clear H'
      try clear c1
      try clear p2
      try clear c3
      try clear c3b0
      try clear c3b1
      obtain ⟨x16_1, rfl, HA, HK1, HB⟩ := hrel
      cases gk with
      | zero => exact absurd HA.out (by simp [bonus_CheckPlate.l0])
      | succ k1 =>
        have H := HA.out
        clear HA
        simp only [bonus_CheckPlate.l0] at H
        by_cases c4 : x16_1 < (l0.length : Int)
        · rw [if_pos c4] at H
          have c4b0 : decide (x16_1 < (l0.length : Int)) = true := decide_eq_true c4
          clear c4
          by_cases c5 : 0 ≤ x16_1
          · rw [if_pos c5] at H
            have c5b0 : decide (0 ≤ x16_1) = true := decide_eq_true c5
            clear c5
            by_cases c6 : x16_1 < (l0.length : Int)
            · rw [if_pos c6] at H
              have c6b0 : decide (x16_1 < (l0.length : Int)) = true := decide_eq_true c6
              clear c6
              replace H := Option.bind_eq_some_iff.mp H
              obtain ⟨t361, A70, H⟩ := H
              replace H : (if t361 = 0 then (bonus_CheckPlate.l0 k1 l0 l1 l0 (l0.length : Int) (wrap64 (x16_1 + 1))) else (some t361)) = some r := H
              have A7 := Aside0.mk A70
              clear A70
              by_cases c8 : t361 = 0
              · rw [if_pos c8] at H
                have c8b0 : (t361 == 0) = true := beq_iff_eq.mpr c8
                have c8b1 : (t361 != 0) = false := bne_eq_false_iff_eq.mpr c8
                clear c8
                have H' := Aside0.mk H
                clear H
                have p359 : 0 ≤ (x16_1 : Int) := of_decide_eq_true (by first | (with_reducible assumption) | assumption)
                have q359 : x16_1 < (l0.length : Int) := of_decide_eq_true (by first | (with_reducible assumption) | assumption)
                obtain ⟨ad359, e359, hx359_0, hx359_1, hx359_2, hx359_3, hx359_4, hx359_5, hx359_6⟩ := at_T27 HR0.out x16_1 p359 q359
                cases e359
                replace hx359_0 := (HB.out.cell (World.block_lt_of_cell? w _ hx359_0)).trans hx359_0
                replace hx359_1 := (HB.out.cell (World.block_lt_of_cell? w _ hx359_1)).trans hx359_1
                replace hx359_2 := (HB.out.cell (World.block_lt_of_cell? w _ hx359_2)).trans hx359_2
                replace hx359_3 := (HB.out.cell (World.block_lt_of_cell? w _ hx359_3)).trans hx359_3
                replace hx359_4 := (HB.out.cell (World.block_lt_of_cell? w _ hx359_4)).trans hx359_4
                replace hx359_5 := (HB.out.cell (World.block_lt_of_cell? w _ hx359_5)).trans hx359_5
                replace hx359_6 := (HB.out.cell (World.block_lt_of_cell? w _ hx359_6)).trans hx359_6
                replace p359 := eq_true p359
                replace q359 := eq_true q359
                go_wp2_with (first | ((with_reducible refine gate_dst (N := 6) rfl ?_); refine box_event ?hg (N := 6) ?hd (cs := #[.int .i64 0, .int .i64 0, .int .i64 0, .int .i64 0, .int .i64 0, .int .i64 0, .bool false]) (t := 27) ?hr ?_; (case hd => rfl); (case hg => rfl); (case hr => first | (go_simp; done) | (go_simp; rfl)); intro gb360 hg w9 hbox hb; have n0_ := Aside0.mk (below_step (by repeat (first | (with_reducible first | exact HB.out | apply below_alloc | apply pw_below_drewN | apply below_drew1) | exact HB.out)) hb); have n1_ := Aside0.mk (hbox); have n2_ := Aside0.mk ((by rw [hg]; exact (below_size (by repeat (first | (with_reducible first | exact HB.out | apply below_alloc | apply pw_below_drewN | apply below_drew1) | exact HB.out))) : w.heap.size ≤ gb360)); have n3_ := Aside0.mk ((by rw [hg]; exact (below_size (by repeat (first | (with_reducible first | exact HB.out | apply below_alloc | apply pw_below_drewN | apply below_drew1) | exact HB.out))) : w.heap.size ≤ gb360)); clear HB; have HB := n0_; have BK360 := n1_; have GW360 := n2_; have GE360 := n3_; clear n0_ n1_ n2_ n3_; clear hb hbox hg; have hcz10_0 : w9.cell? ⟨gb360, 0, none⟩ = some (.int .i64 0) := (blk_cell BK360.out 0).trans rfl; have hcz10_1 : w9.cell? ⟨gb360, 1, none⟩ = some (.int .i64 0) := (blk_cell BK360.out 1).trans rfl; have hcz10_2 : w9.cell? ⟨gb360, 2, none⟩ = some (.int .i64 0) := (blk_cell BK360.out 2).trans rfl; have hcz10_3 : w9.cell? ⟨gb360, 3, none⟩ = some (.int .i64 0) := (blk_cell BK360.out 3).trans rfl; have hcz10_4 : w9.cell? ⟨gb360, 4, none⟩ = some (.int .i64 0) := (blk_cell BK360.out 4).trans rfl; have hcz10_5 : w9.cell? ⟨gb360, 5, none⟩ = some (.int .i64 0) := (blk_cell BK360.out 5).trans rfl; have hcz10_6 : w9.cell? ⟨gb360, 6, none⟩ = some (.bool false) := (blk_cell BK360.out 6).trans rfl; have hfz10_0 := blk_frozen BK360.out 0; have hfz10_1 := blk_frozen BK360.out 1; have hfz10_2 := blk_frozen BK360.out 2; have hfz10_3 := blk_frozen BK360.out 3; have hfz10_4 := blk_frozen BK360.out 4; have hfz10_5 := blk_frozen BK360.out 5; have hfz10_6 := blk_frozen BK360.out 6) | ((with_reducible refine gate_callee (f := 22) rfl ?_); refine goesL_ (some 21) rfl rfl Tryd.func22 (by kernel_rfl) rfl #[.agg #[.int .i64 ((rd_T27 l0 x16_1).f0.f0), .int .i64 ((rd_T27 l0 x16_1).f0.f1), .int .i64 ((rd_T27 l0 x16_1).f1.f0), .int .i64 ((rd_T27 l0 x16_1).f1.f1), .int .i64 ((rd_T27 l0 x16_1).f2), .int .i64 ((rd_T27 l0 x16_1).f3), .bool ((rd_T27 l0 x16_1).f4)]] rfl (by (try simp only [List.map_toArray, List.map_cons, List.map_nil]); first | done | rfl | (simp only [List.length_drop, List.length_take]; rfl)) ?_; (with_reducible refine (bonus_Check.calls k1 ((rd_T27 l0 x16_1).f0.f0) ((rd_T27 l0 x16_1).f0.f1) ((rd_T27 l0 x16_1).f1.f0) ((rd_T27 l0 x16_1).f1.f1) ((rd_T27 l0 x16_1).f2) ((rd_T27 l0 x16_1).f3) ((rd_T27 l0 x16_1).f4) t361 _ A7.out).mono ?_); rintro e w11 ⟨rfl, hb⟩; refine ⟨_, rfl, ?_⟩; have n0_ := Aside0.mk (blk_below (g := gb360) (o := .cells #[.int .i64 ((rd_T27 l0 x16_1).f0.f0), .int .i64 ((rd_T27 l0 x16_1).f0.f1), .int .i64 ((rd_T27 l0 x16_1).f1.f0), .int .i64 ((rd_T27 l0 x16_1).f1.f1), .int .i64 ((rd_T27 l0 x16_1).f2), .int .i64 ((rd_T27 l0 x16_1).f3), .bool ((rd_T27 l0 x16_1).f4)] 27 (0, 0)) (by (with_reducible repeat (first | refine blk_drewN ?_ _ | refine blk_drew ?_ | refine blk_alloc ?_ _)); refine blk_put (cs := #[.int .i64 ((rd_T27 l0 x16_1).f0.f0), .int .i64 ((rd_T27 l0 x16_1).f0.f1), .int .i64 ((rd_T27 l0 x16_1).f1.f0), .int .i64 ((rd_T27 l0 x16_1).f1.f1), .int .i64 ((rd_T27 l0 x16_1).f2), .int .i64 ((rd_T27 l0 x16_1).f3), .bool false]) ?_ 6 _ rfl; (with_reducible repeat (first | refine blk_drewN ?_ _ | refine blk_drew ?_ | refine blk_alloc ?_ _)); refine blk_put (cs := #[.int .i64 ((rd_T27 l0 x16_1).f0.f0), .int .i64 ((rd_T27 l0 x16_1).f0.f1), .int .i64 ((rd_T27 l0 x16_1).f1.f0), .int .i64 ((rd_T27 l0 x16_1).f1.f1), .int .i64 ((rd_T27 l0 x16_1).f2), .int .i64 0, .bool false]) ?_ 5 _ rfl; (with_reducible repeat (first | refine blk_drewN ?_ _ | refine blk_drew ?_ | refine blk_alloc ?_ _)); refine blk_put (cs := #[.int .i64 ((rd_T27 l0 x16_1).f0.f0), .int .i64 ((rd_T27 l0 x16_1).f0.f1), .int .i64 ((rd_T27 l0 x16_1).f1.f0), .int .i64 ((rd_T27 l0 x16_1).f1.f1), .int .i64 0, .int .i64 0, .bool false]) ?_ 4 _ rfl; (with_reducible repeat (first | refine blk_drewN ?_ _ | refine blk_drew ?_ | refine blk_alloc ?_ _)); refine blk_put (cs := #[.int .i64 ((rd_T27 l0 x16_1).f0.f0), .int .i64 ((rd_T27 l0 x16_1).f0.f1), .int .i64 ((rd_T27 l0 x16_1).f1.f0), .int .i64 0, .int .i64 0, .int .i64 0, .bool false]) ?_ 3 _ rfl; (with_reducible repeat (first | refine blk_drewN ?_ _ | refine blk_drew ?_ | refine blk_alloc ?_ _)); refine blk_put (cs := #[.int .i64 ((rd_T27 l0 x16_1).f0.f0), .int .i64 ((rd_T27 l0 x16_1).f0.f1), .int .i64 0, .int .i64 0, .int .i64 0, .int .i64 0, .bool false]) ?_ 2 _ rfl; (with_reducible repeat (first | refine blk_drewN ?_ _ | refine blk_drew ?_ | refine blk_alloc ?_ _)); refine blk_put (cs := #[.int .i64 ((rd_T27 l0 x16_1).f0.f0), .int .i64 0, .int .i64 0, .int .i64 0, .int .i64 0, .int .i64 0, .bool false]) ?_ 1 _ rfl; (with_reducible repeat (first | refine blk_drewN ?_ _ | refine blk_drew ?_ | refine blk_alloc ?_ _)); refine blk_put (cs := #[.int .i64 0, .int .i64 0, .int .i64 0, .int .i64 0, .int .i64 0, .int .i64 0, .bool false]) ?_ 0 _ rfl; (with_reducible repeat (first | refine blk_drewN ?_ _ | refine blk_drew ?_ | refine blk_alloc ?_ _)); exact BK360.out) hb); have n1_ := Aside0.mk (below_step (by repeat (first | (with_reducible first | exact HB.out | apply below_alloc | apply pw_below_drewN | apply below_drew1 | refine below_set ?_ GE360.out) | exact HB.out)) hb); clear BK360; clear HB; have BK360 := n0_; have HB := n1_; clear n0_ n1_; (try clear hb); (try clear hb2); (try clear hk); (try clear hi)))
                go_roundg k1
                case measure => have := HK1.out; omega
                case rel => exact ⟨(wrap64 (x16_1 + 1)), (by first | rfl | (simp; done) | (simp [*]; done)), H', ⟨by have := HK1.out; omega⟩, ⟨by repeat (first | (with_reducible first | exact HB.out | apply below_alloc | apply pw_below_drewN | apply below_drew1 | refine below_set ?_ GE360.out) | exact HB.out)⟩⟩
              · rw [if_neg c8] at H
                have c8b0 : (t361 == 0) = false := beq_eq_false_iff_ne.mpr c8
                have c8b1 : (t361 != 0) = true := bne_iff_ne.mpr c8
                obtain rfl := Option.some.inj H
                have p359 : 0 ≤ (x16_1 : Int) := of_decide_eq_true (by first | (with_reducible assumption) | assumption)
                have q359 : x16_1 < (l0.length : Int) := of_decide_eq_true (by first | (with_reducible assumption) | assumption)
                obtain ⟨ad359, e359, hx359_0, hx359_1, hx359_2, hx359_3, hx359_4, hx359_5, hx359_6⟩ := at_T27 HR0.out x16_1 p359 q359
                cases e359
                replace hx359_0 := (HB.out.cell (World.block_lt_of_cell? w _ hx359_0)).trans hx359_0
                replace hx359_1 := (HB.out.cell (World.block_lt_of_cell? w _ hx359_1)).trans hx359_1
                replace hx359_2 := (HB.out.cell (World.block_lt_of_cell? w _ hx359_2)).trans hx359_2
                replace hx359_3 := (HB.out.cell (World.block_lt_of_cell? w _ hx359_3)).trans hx359_3
                replace hx359_4 := (HB.out.cell (World.block_lt_of_cell? w _ hx359_4)).trans hx359_4
                replace hx359_5 := (HB.out.cell (World.block_lt_of_cell? w _ hx359_5)).trans hx359_5
                replace hx359_6 := (HB.out.cell (World.block_lt_of_cell? w _ hx359_6)).trans hx359_6
                replace p359 := eq_true p359
                replace q359 := eq_true q359
                go_wp2_with (first | ((with_reducible refine gate_dst (N := 6) rfl ?_); refine box_event ?hg (N := 6) ?hd (cs := #[.int .i64 0, .int .i64 0, .int .i64 0, .int .i64 0, .int .i64 0, .int .i64 0, .bool false]) (t := 27) ?hr ?_; (case hd => rfl); (case hg => rfl); (case hr => first | (go_simp; done) | (go_simp; rfl)); intro gb360 hg w12 hbox hb; have n0_ := Aside0.mk (below_step (by repeat (first | (with_reducible first | exact HB.out | apply below_alloc | apply pw_below_drewN | apply below_drew1) | exact HB.out)) hb); have n1_ := Aside0.mk (hbox); have n2_ := Aside0.mk ((by rw [hg]; exact (below_size (by repeat (first | (with_reducible first | exact HB.out | apply below_alloc | apply pw_below_drewN | apply below_drew1) | exact HB.out))) : w.heap.size ≤ gb360)); have n3_ := Aside0.mk ((by rw [hg]; exact (below_size (by repeat (first | (with_reducible first | exact HB.out | apply below_alloc | apply pw_below_drewN | apply below_drew1) | exact HB.out))) : w.heap.size ≤ gb360)); clear HB; have HB := n0_; have BK360 := n1_; have GW360 := n2_; have GE360 := n3_; clear n0_ n1_ n2_ n3_; clear hb hbox hg; have hcz13_0 : w12.cell? ⟨gb360, 0, none⟩ = some (.int .i64 0) := (blk_cell BK360.out 0).trans rfl; have hcz13_1 : w12.cell? ⟨gb360, 1, none⟩ = some (.int .i64 0) := (blk_cell BK360.out 1).trans rfl; have hcz13_2 : w12.cell? ⟨gb360, 2, none⟩ = some (.int .i64 0) := (blk_cell BK360.out 2).trans rfl; have hcz13_3 : w12.cell? ⟨gb360, 3, none⟩ = some (.int .i64 0) := (blk_cell BK360.out 3).trans rfl; have hcz13_4 : w12.cell? ⟨gb360, 4, none⟩ = some (.int .i64 0) := (blk_cell BK360.out 4).trans rfl; have hcz13_5 : w12.cell? ⟨gb360, 5, none⟩ = some (.int .i64 0) := (blk_cell BK360.out 5).trans rfl; have hcz13_6 : w12.cell? ⟨gb360, 6, none⟩ = some (.bool false) := (blk_cell BK360.out 6).trans rfl; have hfz13_0 := blk_frozen BK360.out 0; have hfz13_1 := blk_frozen BK360.out 1; have hfz13_2 := blk_frozen BK360.out 2; have hfz13_3 := blk_frozen BK360.out 3; have hfz13_4 := blk_frozen BK360.out 4; have hfz13_5 := blk_frozen BK360.out 5; have hfz13_6 := blk_frozen BK360.out 6) | ((with_reducible refine gate_callee (f := 22) rfl ?_); refine goesL_ (some 21) rfl rfl Tryd.func22 (by kernel_rfl) rfl #[.agg #[.int .i64 ((rd_T27 l0 x16_1).f0.f0), .int .i64 ((rd_T27 l0 x16_1).f0.f1), .int .i64 ((rd_T27 l0 x16_1).f1.f0), .int .i64 ((rd_T27 l0 x16_1).f1.f1), .int .i64 ((rd_T27 l0 x16_1).f2), .int .i64 ((rd_T27 l0 x16_1).f3), .bool ((rd_T27 l0 x16_1).f4)]] rfl (by (try simp only [List.map_toArray, List.map_cons, List.map_nil]); first | done | rfl | (simp only [List.length_drop, List.length_take]; rfl)) ?_; (with_reducible refine (bonus_Check.calls k1 ((rd_T27 l0 x16_1).f0.f0) ((rd_T27 l0 x16_1).f0.f1) ((rd_T27 l0 x16_1).f1.f0) ((rd_T27 l0 x16_1).f1.f1) ((rd_T27 l0 x16_1).f2) ((rd_T27 l0 x16_1).f3) ((rd_T27 l0 x16_1).f4) t361 _ A7.out).mono ?_); rintro e w14 ⟨rfl, hb⟩; refine ⟨_, rfl, ?_⟩; have n0_ := Aside0.mk (blk_below (g := gb360) (o := .cells #[.int .i64 ((rd_T27 l0 x16_1).f0.f0), .int .i64 ((rd_T27 l0 x16_1).f0.f1), .int .i64 ((rd_T27 l0 x16_1).f1.f0), .int .i64 ((rd_T27 l0 x16_1).f1.f1), .int .i64 ((rd_T27 l0 x16_1).f2), .int .i64 ((rd_T27 l0 x16_1).f3), .bool ((rd_T27 l0 x16_1).f4)] 27 (0, 0)) (by (with_reducible repeat (first | refine blk_drewN ?_ _ | refine blk_drew ?_ | refine blk_alloc ?_ _)); refine blk_put (cs := #[.int .i64 ((rd_T27 l0 x16_1).f0.f0), .int .i64 ((rd_T27 l0 x16_1).f0.f1), .int .i64 ((rd_T27 l0 x16_1).f1.f0), .int .i64 ((rd_T27 l0 x16_1).f1.f1), .int .i64 ((rd_T27 l0 x16_1).f2), .int .i64 ((rd_T27 l0 x16_1).f3), .bool false]) ?_ 6 _ rfl; (with_reducible repeat (first | refine blk_drewN ?_ _ | refine blk_drew ?_ | refine blk_alloc ?_ _)); refine blk_put (cs := #[.int .i64 ((rd_T27 l0 x16_1).f0.f0), .int .i64 ((rd_T27 l0 x16_1).f0.f1), .int .i64 ((rd_T27 l0 x16_1).f1.f0), .int .i64 ((rd_T27 l0 x16_1).f1.f1), .int .i64 ((rd_T27 l0 x16_1).f2), .int .i64 0, .bool false]) ?_ 5 _ rfl; (with_reducible repeat (first | refine blk_drewN ?_ _ | refine blk_drew ?_ | refine blk_alloc ?_ _)); refine blk_put (cs := #[.int .i64 ((rd_T27 l0 x16_1).f0.f0), .int .i64 ((rd_T27 l0 x16_1).f0.f1), .int .i64 ((rd_T27 l0 x16_1).f1.f0), .int .i64 ((rd_T27 l0 x16_1).f1.f1), .int .i64 0, .int .i64 0, .bool false]) ?_ 4 _ rfl; (with_reducible repeat (first | refine blk_drewN ?_ _ | refine blk_drew ?_ | refine blk_alloc ?_ _)); refine blk_put (cs := #[.int .i64 ((rd_T27 l0 x16_1).f0.f0), .int .i64 ((rd_T27 l0 x16_1).f0.f1), .int .i64 ((rd_T27 l0 x16_1).f1.f0), .int .i64 0, .int .i64 0, .int .i64 0, .bool false]) ?_ 3 _ rfl; (with_reducible repeat (first | refine blk_drewN ?_ _ | refine blk_drew ?_ | refine blk_alloc ?_ _)); refine blk_put (cs := #[.int .i64 ((rd_T27 l0 x16_1).f0.f0), .int .i64 ((rd_T27 l0 x16_1).f0.f1), .int .i64 0, .int .i64 0, .int .i64 0, .int .i64 0, .bool false]) ?_ 2 _ rfl; (with_reducible repeat (first | refine blk_drewN ?_ _ | refine blk_drew ?_ | refine blk_alloc ?_ _)); refine blk_put (cs := #[.int .i64 ((rd_T27 l0 x16_1).f0.f0), .int .i64 0, .int .i64 0, .int .i64 0, .int .i64 0, .int .i64 0, .bool false]) ?_ 1 _ rfl; (with_reducible repeat (first | refine blk_drewN ?_ _ | refine blk_drew ?_ | refine blk_alloc ?_ _)); refine blk_put (cs := #[.int .i64 0, .int .i64 0, .int .i64 0, .int .i64 0, .int .i64 0, .int .i64 0, .bool false]) ?_ 0 _ rfl; (with_reducible repeat (first | refine blk_drewN ?_ _ | refine blk_drew ?_ | refine blk_alloc ?_ _)); exact BK360.out) hb); have n1_ := Aside0.mk (below_step (by repeat (first | (with_reducible first | exact HB.out | apply below_alloc | apply pw_below_drewN | apply below_drew1 | refine below_set ?_ GE360.out) | exact HB.out)) hb); clear BK360; clear HB; have BK360 := n0_; have HB := n1_; clear n0_ n1_; (try clear hb); (try clear hb2); (try clear hk); (try clear hi)))
                go_ret
                exact ⟨by first | rfl | (simp [errW_none, errW_some] <;> rfl) | (simp [*, errW_none, errW_some] <;> rfl), by repeat (first | (with_reducible first | exact HB.out | apply below_alloc | apply pw_below_drewN | apply below_drew1 | refine below_set ?_ GE360.out) | exact HB.out)⟩
            · rw [if_neg c6] at H
              exact absurd H (by simp)
          · rw [if_neg c5] at H
            exact absurd H (by simp)
        · rw [if_neg c4] at H
          have c4b0 : decide (x16_1 < (l0.length : Int)) = false := decide_eq_false c4
          clear c4
          by_cases c15 : (l1.length : Int) = (l0.length : Int)
          · rw [if_pos c15] at H
            have c15b0 : ((l1.length : Int) == (l0.length : Int)) = true := beq_iff_eq.mpr c15
            have c15b1 : ((l1.length : Int) != (l0.length : Int)) = false := bne_eq_false_iff_eq.mpr c15
            have c15b2 : (l1.length == l0.length) = true := by first | simpa using c15 | (simp at c15 ⊢; omega)
            clear c15
            have H' := Aside0.mk H
            clear H
            go_wp2
            go_loopg [33] k1 (fun kq v33 w' => ∃ (x33_2 : Int), v33 = .int .i64 x33_2 ∧ Aside0 (bonus_CheckPlate.l1 kq l1 (l1.length : Int) x33_2 = some r) ∧ Aside0 (kq ≤ k1) ∧ Aside0 (Below w.heap.size w w'))
            case atStart => exact ⟨(0), (by first | rfl | (simp; done) | (simp [*]; done)), H', ⟨Nat.le_refl _⟩, ⟨by repeat (first | (with_reducible first | exact HB.out | apply below_alloc | apply pw_below_drewN | apply below_drew1) | exact HB.out)⟩⟩
            case round =>
              clear H'
              try clear c1
              try clear c2
              try clear p2
              try clear c3
              try clear c3b0
              try clear c3b1
              try clear p3
              try clear q3
              try clear hx3
              try clear c4
              try clear c4b0
              try clear c5
              try clear c5b0
              try clear c6
              try clear c6b0
              try clear p6
              try clear c8
              try clear c8b0
              try clear c8b1
              try clear c15
              try clear c15b0
              try clear c15b1
              try clear c15b2
              try clear hcz10_0
              try clear hcz10_1
              try clear hcz10_2
              try clear hcz10_3
              try clear hcz10_4
              try clear hcz10_5
              try clear hcz10_6
              try clear hcz13_0
              try clear hcz13_1
              try clear hcz13_2
              try clear hcz13_3
              try clear hcz13_4
              try clear hcz13_5
              try clear hcz13_6
              try clear hfz10_0
              try clear hfz10_1
              try clear hfz10_2
              try clear hfz10_3
              try clear hfz10_4
              try clear hfz10_5
              try clear hfz10_6
              try clear hfz13_0
              try clear hfz13_1
              try clear hfz13_2
              try clear hfz13_3
              try clear hfz13_4
              try clear hfz13_5
              try clear hfz13_6
              try clear hx359_0
              try clear hx359_1
              try clear hx359_2
              try clear hx359_3
              try clear hx359_4
              try clear hx359_5
              try clear hx359_6
              try clear p2
              try clear p359
              try clear q359
              obtain ⟨x33_2, rfl, HA, HK2, HB⟩ := hrel
              cases gk with
              | zero => exact absurd HA.out (by simp [bonus_CheckPlate.l1])
              | succ k2 =>
                have H := HA.out
                clear HA
                simp only [bonus_CheckPlate.l1] at H
                by_cases c16 : x33_2 < (l1.length : Int)
                · rw [if_pos c16] at H
                  have c16b0 : decide (x33_2 < (l1.length : Int)) = true := decide_eq_true c16
                  clear c16
                  by_cases c17 : 0 ≤ x33_2
                  · rw [if_pos c17] at H
                    have c17b0 : decide (0 ≤ x33_2) = true := decide_eq_true c17
                    clear c17
                    by_cases c18 : x33_2 < (l1.length : Int)
                    · rw [if_pos c18] at H
                      have c18b0 : decide (x33_2 < (l1.length : Int)) = true := decide_eq_true c18
                      clear c18
                      replace H := Option.bind_eq_some_iff.mp H
                      obtain ⟨t364, A190, H⟩ := H
                      replace H : (if t364 = 0 then (bonus_CheckPlate.l1 k2 l1 (l1.length : Int) (wrap64 (x33_2 + 1))) else (some t364)) = some r := H
                      have A19 := Aside0.mk A190
                      clear A190
                      by_cases c20 : t364 = 0
                      · rw [if_pos c20] at H
                        have c20b0 : (t364 == 0) = true := beq_iff_eq.mpr c20
                        have c20b1 : (t364 != 0) = false := bne_eq_false_iff_eq.mpr c20
                        clear c20
                        have H' := Aside0.mk H
                        clear H
                        have p362 : 0 ≤ (x33_2 : Int) := of_decide_eq_true (by first | (with_reducible assumption) | assumption)
                        have q362 : x33_2 < (l1.length : Int) := of_decide_eq_true (by first | (with_reducible assumption) | assumption)
                        obtain ⟨ad362, e362, hx362_0, hx362_1, hx362_2⟩ := at_T68 HR1.out x33_2 p362 q362
                        cases e362
                        replace hx362_0 := (HB.out.cell (World.block_lt_of_cell? w _ hx362_0)).trans hx362_0
                        replace hx362_1 := (HB.out.cell (World.block_lt_of_cell? w _ hx362_1)).trans hx362_1
                        replace hx362_2 := (HB.out.cell (World.block_lt_of_cell? w _ hx362_2)).trans hx362_2
                        replace p362 := eq_true p362
                        replace q362 := eq_true q362
                        go_wp2_with (first | ((with_reducible refine gate_dst (N := 9) rfl ?_); refine box_event ?hg (N := 9) ?hd (cs := #[.int .i64 0, .int .i64 0, .int .i64 0]) (t := 68) ?hr ?_; (case hd => rfl); (case hg => rfl); (case hr => first | (go_simp; done) | (go_simp; rfl)); intro gb363 hg w21 hbox hb; have n0_ := Aside0.mk (below_step (by repeat (first | (with_reducible first | exact HB.out | apply below_alloc | apply pw_below_drewN | apply below_drew1) | exact HB.out)) hb); have n1_ := Aside0.mk (hbox); have n2_ := Aside0.mk ((by rw [hg]; exact (below_size (by repeat (first | (with_reducible first | exact HB.out | apply below_alloc | apply pw_below_drewN | apply below_drew1) | exact HB.out))) : w.heap.size ≤ gb363)); have n3_ := Aside0.mk ((by rw [hg]; exact (below_size (by repeat (first | (with_reducible first | exact HB.out | apply below_alloc | apply pw_below_drewN | apply below_drew1) | exact HB.out))) : w.heap.size ≤ gb363)); clear HB; have HB := n0_; have BK363 := n1_; have GW363 := n2_; have GE363 := n3_; clear n0_ n1_ n2_ n3_; clear hb hbox hg; have hcz22_0 : w21.cell? ⟨gb363, 0, none⟩ = some (.int .i64 0) := (blk_cell BK363.out 0).trans rfl; have hcz22_1 : w21.cell? ⟨gb363, 1, none⟩ = some (.int .i64 0) := (blk_cell BK363.out 1).trans rfl; have hcz22_2 : w21.cell? ⟨gb363, 2, none⟩ = some (.int .i64 0) := (blk_cell BK363.out 2).trans rfl; have hfz22_0 := blk_frozen BK363.out 0; have hfz22_1 := blk_frozen BK363.out 1; have hfz22_2 := blk_frozen BK363.out 2) | ((with_reducible refine gate_callee (f := 100) rfl ?_); refine goesL_ (some 38) rfl rfl Tryd.func100 (by kernel_rfl) rfl #[.agg #[.int .i64 ((rd_T68 l1 x33_2).f0.f0), .int .i64 ((rd_T68 l1 x33_2).f0.f1), .int .i64 ((rd_T68 l1 x33_2).f1)]] rfl (by (try simp only [List.map_toArray, List.map_cons, List.map_nil]); first | done | rfl | (simp only [List.length_drop, List.length_take]; rfl)) ?_; (with_reducible refine (bonus_ring.calls ((rd_T68 l1 x33_2).f0.f0) ((rd_T68 l1 x33_2).f0.f1) ((rd_T68 l1 x33_2).f1) t364 _ A19.out).mono ?_); rintro e w23 ⟨rfl, hb⟩; refine ⟨_, rfl, ?_⟩; have n0_ := Aside0.mk (blk_below (g := gb363) (o := .cells #[.int .i64 ((rd_T68 l1 x33_2).f0.f0), .int .i64 ((rd_T68 l1 x33_2).f0.f1), .int .i64 ((rd_T68 l1 x33_2).f1)] 68 (0, 0)) (by (with_reducible repeat (first | refine blk_drewN ?_ _ | refine blk_drew ?_ | refine blk_alloc ?_ _)); refine blk_put (cs := #[.int .i64 ((rd_T68 l1 x33_2).f0.f0), .int .i64 ((rd_T68 l1 x33_2).f0.f1), .int .i64 0]) ?_ 2 _ rfl; (with_reducible repeat (first | refine blk_drewN ?_ _ | refine blk_drew ?_ | refine blk_alloc ?_ _)); refine blk_put (cs := #[.int .i64 ((rd_T68 l1 x33_2).f0.f0), .int .i64 0, .int .i64 0]) ?_ 1 _ rfl; (with_reducible repeat (first | refine blk_drewN ?_ _ | refine blk_drew ?_ | refine blk_alloc ?_ _)); refine blk_put (cs := #[.int .i64 0, .int .i64 0, .int .i64 0]) ?_ 0 _ rfl; (with_reducible repeat (first | refine blk_drewN ?_ _ | refine blk_drew ?_ | refine blk_alloc ?_ _)); exact BK363.out) hb); have n1_ := Aside0.mk (below_step (by repeat (first | (with_reducible first | exact HB.out | apply below_alloc | apply pw_below_drewN | apply below_drew1 | refine below_set ?_ GE363.out) | exact HB.out)) hb); clear BK363; clear HB; have BK363 := n0_; have HB := n1_; clear n0_ n1_; (try clear hb); (try clear hb2); (try clear hk); (try clear hi)))
                        go_roundg k2
                        case measure => have := HK1.out; have := HK2.out; omega
                        case rel => exact ⟨(wrap64 (x33_2 + 1)), (by first | rfl | (simp; done) | (simp [*]; done)), H', ⟨by have := HK1.out; have := HK2.out; omega⟩, ⟨by repeat (first | (with_reducible first | exact HB.out | apply below_alloc | apply pw_below_drewN | apply below_drew1 | refine below_set ?_ GE363.out) | exact HB.out)⟩⟩
                      · rw [if_neg c20] at H
                        have c20b0 : (t364 == 0) = false := beq_eq_false_iff_ne.mpr c20
                        have c20b1 : (t364 != 0) = true := bne_iff_ne.mpr c20
                        obtain rfl := Option.some.inj H
                        have p362 : 0 ≤ (x33_2 : Int) := of_decide_eq_true (by first | (with_reducible assumption) | assumption)
                        have q362 : x33_2 < (l1.length : Int) := of_decide_eq_true (by first | (with_reducible assumption) | assumption)
                        obtain ⟨ad362, e362, hx362_0, hx362_1, hx362_2⟩ := at_T68 HR1.out x33_2 p362 q362
                        cases e362
                        replace hx362_0 := (HB.out.cell (World.block_lt_of_cell? w _ hx362_0)).trans hx362_0
                        replace hx362_1 := (HB.out.cell (World.block_lt_of_cell? w _ hx362_1)).trans hx362_1
                        replace hx362_2 := (HB.out.cell (World.block_lt_of_cell? w _ hx362_2)).trans hx362_2
                        replace p362 := eq_true p362
                        replace q362 := eq_true q362
                        go_wp2_with (first | ((with_reducible refine gate_dst (N := 9) rfl ?_); refine box_event ?hg (N := 9) ?hd (cs := #[.int .i64 0, .int .i64 0, .int .i64 0]) (t := 68) ?hr ?_; (case hd => rfl); (case hg => rfl); (case hr => first | (go_simp; done) | (go_simp; rfl)); intro gb363 hg w24 hbox hb; have n0_ := Aside0.mk (below_step (by repeat (first | (with_reducible first | exact HB.out | apply below_alloc | apply pw_below_drewN | apply below_drew1) | exact HB.out)) hb); have n1_ := Aside0.mk (hbox); have n2_ := Aside0.mk ((by rw [hg]; exact (below_size (by repeat (first | (with_reducible first | exact HB.out | apply below_alloc | apply pw_below_drewN | apply below_drew1) | exact HB.out))) : w.heap.size ≤ gb363)); have n3_ := Aside0.mk ((by rw [hg]; exact (below_size (by repeat (first | (with_reducible first | exact HB.out | apply below_alloc | apply pw_below_drewN | apply below_drew1) | exact HB.out))) : w.heap.size ≤ gb363)); clear HB; have HB := n0_; have BK363 := n1_; have GW363 := n2_; have GE363 := n3_; clear n0_ n1_ n2_ n3_; clear hb hbox hg; have hcz25_0 : w24.cell? ⟨gb363, 0, none⟩ = some (.int .i64 0) := (blk_cell BK363.out 0).trans rfl; have hcz25_1 : w24.cell? ⟨gb363, 1, none⟩ = some (.int .i64 0) := (blk_cell BK363.out 1).trans rfl; have hcz25_2 : w24.cell? ⟨gb363, 2, none⟩ = some (.int .i64 0) := (blk_cell BK363.out 2).trans rfl; have hfz25_0 := blk_frozen BK363.out 0; have hfz25_1 := blk_frozen BK363.out 1; have hfz25_2 := blk_frozen BK363.out 2) | ((with_reducible refine gate_callee (f := 100) rfl ?_); refine goesL_ (some 38) rfl rfl Tryd.func100 (by kernel_rfl) rfl #[.agg #[.int .i64 ((rd_T68 l1 x33_2).f0.f0), .int .i64 ((rd_T68 l1 x33_2).f0.f1), .int .i64 ((rd_T68 l1 x33_2).f1)]] rfl (by (try simp only [List.map_toArray, List.map_cons, List.map_nil]); first | done | rfl | (simp only [List.length_drop, List.length_take]; rfl)) ?_; (with_reducible refine (bonus_ring.calls ((rd_T68 l1 x33_2).f0.f0) ((rd_T68 l1 x33_2).f0.f1) ((rd_T68 l1 x33_2).f1) t364 _ A19.out).mono ?_); rintro e w26 ⟨rfl, hb⟩; refine ⟨_, rfl, ?_⟩; have n0_ := Aside0.mk (blk_below (g := gb363) (o := .cells #[.int .i64 ((rd_T68 l1 x33_2).f0.f0), .int .i64 ((rd_T68 l1 x33_2).f0.f1), .int .i64 ((rd_T68 l1 x33_2).f1)] 68 (0, 0)) (by (with_reducible repeat (first | refine blk_drewN ?_ _ | refine blk_drew ?_ | refine blk_alloc ?_ _)); refine blk_put (cs := #[.int .i64 ((rd_T68 l1 x33_2).f0.f0), .int .i64 ((rd_T68 l1 x33_2).f0.f1), .int .i64 0]) ?_ 2 _ rfl; (with_reducible repeat (first | refine blk_drewN ?_ _ | refine blk_drew ?_ | refine blk_alloc ?_ _)); refine blk_put (cs := #[.int .i64 ((rd_T68 l1 x33_2).f0.f0), .int .i64 0, .int .i64 0]) ?_ 1 _ rfl; (with_reducible repeat (first | refine blk_drewN ?_ _ | refine blk_drew ?_ | refine blk_alloc ?_ _)); refine blk_put (cs := #[.int .i64 0, .int .i64 0, .int .i64 0]) ?_ 0 _ rfl; (with_reducible repeat (first | refine blk_drewN ?_ _ | refine blk_drew ?_ | refine blk_alloc ?_ _)); exact BK363.out) hb); have n1_ := Aside0.mk (below_step (by repeat (first | (with_reducible first | exact HB.out | apply below_alloc | apply pw_below_drewN | apply below_drew1 | refine below_set ?_ GE363.out) | exact HB.out)) hb); clear BK363; clear HB; have BK363 := n0_; have HB := n1_; clear n0_ n1_; (try clear hb); (try clear hb2); (try clear hk); (try clear hi)))
                        go_ret
                        exact ⟨by first | rfl | (simp [errW_none, errW_some] <;> rfl) | (simp [*, errW_none, errW_some] <;> rfl), by repeat (first | (with_reducible first | exact HB.out | apply below_alloc | apply pw_below_drewN | apply below_drew1 | refine below_set ?_ GE363.out) | exact HB.out)⟩
                    · rw [if_neg c18] at H
                      exact absurd H (by simp)
                  · rw [if_neg c17] at H
                    exact absurd H (by simp)
                · rw [if_neg c16] at H
                  have c16b0 : decide (x33_2 < (l1.length : Int)) = false := decide_eq_false c16
                  clear c16
                  obtain rfl := Option.some.inj H
                  go_wp2
                  go_ret
                  exact ⟨by first | rfl | (simp [errW_none, errW_some] <;> rfl) | (simp [*, errW_none, errW_some] <;> rfl), by repeat (first | (with_reducible first | exact HB.out | apply below_alloc | apply pw_below_drewN | apply below_drew1) | exact HB.out)⟩
          · rw [if_neg c15] at H
            have c15b0 : ((l1.length : Int) == (l0.length : Int)) = false := beq_eq_false_iff_ne.mpr c15
            have c15b1 : ((l1.length : Int) != (l0.length : Int)) = true := bne_iff_ne.mpr c15
            have c15b2 : (l1.length == l0.length) = false := by first | simpa using c15 | (simp at c15 ⊢; omega)
            obtain rfl := Option.some.inj H
            go_wp2
            go_ret
            exact ⟨by first | rfl | (simp [errW_none, errW_some] <;> rfl) | (simp [*, errW_none, errW_some] <;> rfl), by repeat (first | (with_reducible first | exact HB.out | apply below_alloc | apply pw_below_drewN | apply below_drew1) | exact HB.out)⟩

/-! ### bonus_Failures: function 51 -/
def bonus_Failures.l0 : Nat → List (S68) → List Int → List (S27) → Int → Int → Option (List Int × Int)
  | 0, _, _, _, _, _ => none
  | k + 1, x1, x7, x16, x17, x18 => if x18 < x17 then (if 0 ≤ x18 then (if x18 < (x16.length : Int) then (if x18 < (x1.length : Int) then ((bonus_good.f ((rd_T27 x16 x18).f0.f0) ((rd_T27 x16 x18).f0.f1) ((rd_T27 x16 x18).f1.f0) ((rd_T27 x16 x18).f1.f1) ((rd_T27 x16 x18).f2) ((rd_T27 x16 x18).f3) ((rd_T27 x16 x18).f4) ((rd_T68 x1 x18).f0.f0) ((rd_T68 x1 x18).f0.f1) ((rd_T68 x1 x18).f1)).bind fun t369 => (if t369 = true then (bonus_Failures.l0 k x1 x7 x16 x17 (wrap64 (x18 + 1))) else (if x7.length < 17592186044416 then (bonus_Failures.l0 k x1 (x7 ++ [x18]) x16 x17 (wrap64 (x18 + 1))) else (none)))) else (none)) else (none)) else (none)) else (some (x7, 0))
def bonus_Failures.f (k : Nat) (l0 : List (S27)) (l1 : List (S68)) : Option (List Int × Int) := (bonus_CheckPlate.f k l0 l1).bind fun t365 => (if t365 = 0 then (bonus_Failures.l0 k l1 ([] : List Int) l0 (l0.length : Int) 0) else (some (([] : List Int), t365)))
theorem bonus_Failures.mono_l : ∀ k, (∀ y0 y1 y2 y3 y4, LeO (bonus_Failures.l0 k y0 y1 y2 y3 y4) (bonus_Failures.l0 (k + 1) y0 y1 y2 y3 y4))
  | 0 => fun _ _ _ _ _ r h => by simp [bonus_Failures.l0] at h
  | k + 1 => by
    have ih0 := bonus_Failures.mono_l k
    · intro y0 y1 y2 y3 y4
      unfold bonus_Failures.l0
      repeat' first
      | (with_reducible exact ih0 _ _ _ _ _)
      | (with_reducible exact bonus_CheckPlate.mono _ _ _)
      | (with_reducible exact LeO.refl _)
      | (with_reducible exact LeO.none _)
      | (with_reducible refine LeO.ite ?_ ?_)
      | (with_reducible refine LeO.bind ?_ (fun _ => ?_))
      | exact ih0 _ _ _ _ _
      | exact bonus_CheckPlate.mono _ _ _
      | exact LeO.none _
      | refine LeO.ite ?_ ?_
      | refine LeO.bind ?_ (fun _ => ?_)
theorem bonus_Failures.mono : ∀ a0 a1 k, LeO (bonus_Failures.f k a0 a1) (bonus_Failures.f (k + 1) a0 a1) := by
  intro a0 a1 k
  have ih0 := bonus_Failures.mono_l k
  unfold bonus_Failures.f
  repeat' first
      | (with_reducible exact ih0 _ _ _ _ _)
      | (with_reducible exact bonus_CheckPlate.mono _ _ _)
      | (with_reducible exact LeO.refl _)
      | (with_reducible exact LeO.none _)
      | (with_reducible refine LeO.ite ?_ ?_)
      | (with_reducible refine LeO.bind ?_ (fun _ => ?_))
      | exact ih0 _ _ _ _ _
      | exact bonus_CheckPlate.mono _ _ _
      | exact LeO.none _
      | refine LeO.ite ?_ ?_
      | refine LeO.bind ?_ (fun _ => ?_)
set_option maxHeartbeats 8000000 in
set_option maxRecDepth 100000 in
theorem bonus_Failures.calls (k : Nat) (A0 : Option Addr) (c0 : Nat) (l0 : List (S27)) (A1 : Option Addr) (c1 : Nat) (l1 : List (S68)) (r1 : List Int) (r2 : Int) (w : World) (hr0 : Kd.C k27 w A0 l0.length l0) (hc0 : l0.length ≤ c0) (hr1 : Kd.C k68 w A1 l1.length l1) (hc1 : l1.length ≤ c1) (h : bonus_Failures.f k l0 l1 = some (r1, r2)) (hS : SignsAt w) :
    Calls Tryd.prog 51 #[.slice A0 l0.length c0, .slice A1 l1.length c1] w fun e w' => ∃ v0_ : Value, e = .returned (.tuple #[v0_, .int .i64 r2]) ∧ Kd.R (Kd.int .i64) 3 w' w.heap.size (fun _ => True) v0_ r1 ∧ Below w.heap.size w w' := by
  have HS := Aside0.mk hS
  clear hS
  have hu27 := Tryd.underlying27
  have hu68 := Tryd.underlying68
  have HR0 := Aside0.mk hr0
  have HC0 := Aside0.mk hc0
  clear hr0 hc0
  have HR1 := Aside0.mk hr1
  have HC1 := Aside0.mk hc1
  clear hr1 hc1
  have HB := Aside0.mk (Below.refl w.heap.size w)
  have H : ((bonus_CheckPlate.f k l0 l1).bind fun t365 => (if t365 = 0 then (bonus_Failures.l0 k l1 ([] : List Int) l0 (l0.length : Int) 0) else (some (([] : List Int), t365)))) = some (r1, r2) := h
  clear h
  replace H := Option.bind_eq_some_iff.mp H
  obtain ⟨t365, A30, H⟩ := H
  replace H : (if t365 = 0 then (bonus_Failures.l0 k l1 ([] : List Int) l0 (l0.length : Int) 0) else (some (([] : List Int), t365))) = some (r1, r2) := H
  have A3 := Aside0.mk A30
  clear A30
  by_cases c4 : t365 = 0
  · rw [if_pos c4] at H
    have c4b0 : (t365 == 0) = true := beq_iff_eq.mpr c4
    have c4b1 : (t365 != 0) = false := bne_eq_false_iff_eq.mpr c4
    clear c4
    have H' := Aside0.mk H
    clear H
    go_enter Tryd.func51, Tryd.ntmps51
    go_wp2_with (first | ((with_reducible refine gate_callee (f := 53) rfl ?_); refine goesL_ (some 12) rfl rfl Tryd.func53 (by kernel_rfl) rfl #[.slice A0 l0.length c0, .slice A1 l1.length c1] rfl (by (try simp only [List.map_toArray, List.map_cons, List.map_nil]); first | done | rfl | (simp only [List.length_drop, List.length_take]; rfl)) ?_; (with_reducible refine (bonus_CheckPlate.calls k _ _ l0 _ _ l1 t365 _ ?side1 ?side2 ?side3 ?side4 A3.out).mono ?_); (case side1 => repeat (first | exact HR0.out | (with_reducible refine Kd.C_alloc ?_ _) | (with_reducible refine Kd.C_drewN ?_ _) | (with_reducible refine Kd.C_drew ?_))); (case side2 => exact HC0.out); (case side3 => repeat (first | exact HR1.out | (with_reducible refine Kd.C_alloc ?_ _) | (with_reducible refine Kd.C_drewN ?_ _) | (with_reducible refine Kd.C_drew ?_))); (case side4 => exact HC1.out); rintro e w5 ⟨rfl, hb⟩; refine ⟨_, rfl, ?_⟩; have n0_ := Aside0.mk (below_step (by repeat (first | (with_reducible first | exact HB.out | apply below_alloc | apply pw_below_drewN | apply below_drew1) | exact HB.out)) hb); clear HB; have HB := n0_; clear n0_; (try clear hb); (try clear hb2); (try clear hk); (try clear hi)))
    go_loopg [7, 18] k (fun kq v7 v18 w' => ∃ (x7_1 : List Int) (x18_1 : Int), v18 = .int .i64 x18_1 ∧ Aside0 (bonus_Failures.l0 kq l1 x7_1 l0 (l0.length : Int) x18_1 = some (r1, r2)) ∧ Aside0 (kq ≤ k) ∧ Aside0 (Kd.R (Kd.int .i64) 3 w' w.heap.size (fun _ => True) v7 x7_1) ∧ Aside0 (Below w.heap.size w w'))
    case atStart => exact ⟨(([] : List Int)), (0), (by first | rfl | (simp; done) | (simp [*]; done)), H', ⟨Nat.le_refl _⟩, ⟨by first | exact Kd.R_nil _ _ _ _ _ | exact Kd.N_nil _ _ _ _ _ | exact Kd.V_nil _ _ _ _ _ | exact Kd.Q_nil _ _ _ _ _ | exact Kd.S_nil _ _ _ _ _⟩, ⟨by repeat (first | (with_reducible first | exact HB.out | apply below_alloc | apply pw_below_drewN | apply below_drew1) | exact HB.out)⟩⟩
    case round =>
      clear H'
      try clear c1
      try clear p2
      try clear c4
      try clear c4b0
      try clear c4b1
      try clear c5
      obtain ⟨x7_1, x18_1, rfl, HA, HK1, HO_7, HB⟩ := hrel
      cases gk with
      | zero => exact absurd HA.out (by simp [bonus_Failures.l0])
      | succ k1 =>
        have H := HA.out
        clear HA
        simp only [bonus_Failures.l0] at H
        by_cases c6 : x18_1 < (l0.length : Int)
        · rw [if_pos c6] at H
          have c6b0 : decide (x18_1 < (l0.length : Int)) = true := decide_eq_true c6
          clear c6
          by_cases c7 : 0 ≤ x18_1
          · rw [if_pos c7] at H
            have c7b0 : decide (0 ≤ x18_1) = true := decide_eq_true c7
            clear c7
            by_cases c8 : x18_1 < (l0.length : Int)
            · rw [if_pos c8] at H
              have c8b0 : decide (x18_1 < (l0.length : Int)) = true := decide_eq_true c8
              clear c8
              by_cases c9 : x18_1 < (l1.length : Int)
              · rw [if_pos c9] at H
                have c9b0 : decide (x18_1 < (l1.length : Int)) = true := decide_eq_true c9
                clear c9
                replace H := Option.bind_eq_some_iff.mp H
                obtain ⟨t369, A100, H⟩ := H
                replace H : (if t369 = true then (bonus_Failures.l0 k1 l1 x7_1 l0 (l0.length : Int) (wrap64 (x18_1 + 1))) else (if x7_1.length < 17592186044416 then (bonus_Failures.l0 k1 l1 (x7_1 ++ [x18_1]) l0 (l0.length : Int) (wrap64 (x18_1 + 1))) else (none))) = some (r1, r2) := H
                have A10 := Aside0.mk A100
                clear A100
                by_cases c11 : t369 = true
                · subst c11
                  have H1 : (bonus_Failures.l0 k1 l1 x7_1 l0 (l0.length : Int) (wrap64 (x18_1 + 1))) = some (r1, r2) := by rw [if_pos rfl] at H; exact H
                  clear H
                  have H := H1
                  clear H1
                  have H' := Aside0.mk H
                  clear H
                  have p366 : 0 ≤ (x18_1 : Int) := of_decide_eq_true (by first | (with_reducible assumption) | assumption)
                  have q366 : x18_1 < (l0.length : Int) := of_decide_eq_true (by first | (with_reducible assumption) | assumption)
                  obtain ⟨ad366, e366, hx366_0, hx366_1, hx366_2, hx366_3, hx366_4, hx366_5, hx366_6⟩ := at_T27 HR0.out x18_1 p366 q366
                  cases e366
                  replace hx366_0 := (HB.out.cell (World.block_lt_of_cell? w _ hx366_0)).trans hx366_0
                  replace hx366_1 := (HB.out.cell (World.block_lt_of_cell? w _ hx366_1)).trans hx366_1
                  replace hx366_2 := (HB.out.cell (World.block_lt_of_cell? w _ hx366_2)).trans hx366_2
                  replace hx366_3 := (HB.out.cell (World.block_lt_of_cell? w _ hx366_3)).trans hx366_3
                  replace hx366_4 := (HB.out.cell (World.block_lt_of_cell? w _ hx366_4)).trans hx366_4
                  replace hx366_5 := (HB.out.cell (World.block_lt_of_cell? w _ hx366_5)).trans hx366_5
                  replace hx366_6 := (HB.out.cell (World.block_lt_of_cell? w _ hx366_6)).trans hx366_6
                  replace p366 := eq_true p366
                  replace q366 := eq_true q366
                  try go_wp2_with (first | ((with_reducible refine gate_dst (N := 9) rfl ?_); refine box_event ?hg (N := 9) ?hd (cs := #[.int .i64 0, .int .i64 0, .int .i64 0, .int .i64 0, .int .i64 0, .int .i64 0, .bool false]) (t := 27) ?hr ?_; (case hd => rfl); (case hg => rfl); (case hr => first | (go_simp; done) | (go_simp; rfl)); intro gb367 hg w12 hbox hb; have n0_ := Aside0.mk (Kd.R_below (by (with_reducible repeat (first | apply Kd.R_alloc | apply Kd.R_drewN | apply Kd.R_drew)); exact HO_7.out) hb); have n1_ := Aside0.mk (below_step (by repeat (first | (with_reducible first | exact HB.out | apply below_alloc | apply pw_below_drewN | apply below_drew1) | exact HB.out)) hb); have n2_ := Aside0.mk (hbox); have n3_ := Aside0.mk ((by rw [hg]; exact (below_size (by repeat (first | (with_reducible first | exact HB.out | apply below_alloc | apply pw_below_drewN | apply below_drew1) | exact HB.out))) : w.heap.size ≤ gb367)); have n4_ := Aside0.mk ((by rw [hg]; exact (below_size (by repeat (first | (with_reducible first | exact HB.out | apply below_alloc | apply pw_below_drewN | apply below_drew1) | exact HB.out))) : w.heap.size ≤ gb367)); clear HO_7; clear HB; have HO_7 := n0_; have HB := n1_; have BK367 := n2_; have GW367 := n3_; have GE367 := n4_; clear n0_ n1_ n2_ n3_ n4_; clear hb hbox hg; have hcz13_0 : w12.cell? ⟨gb367, 0, none⟩ = some (.int .i64 0) := (blk_cell BK367.out 0).trans rfl; have hcz13_1 : w12.cell? ⟨gb367, 1, none⟩ = some (.int .i64 0) := (blk_cell BK367.out 1).trans rfl; have hcz13_2 : w12.cell? ⟨gb367, 2, none⟩ = some (.int .i64 0) := (blk_cell BK367.out 2).trans rfl; have hcz13_3 : w12.cell? ⟨gb367, 3, none⟩ = some (.int .i64 0) := (blk_cell BK367.out 3).trans rfl; have hcz13_4 : w12.cell? ⟨gb367, 4, none⟩ = some (.int .i64 0) := (blk_cell BK367.out 4).trans rfl; have hcz13_5 : w12.cell? ⟨gb367, 5, none⟩ = some (.int .i64 0) := (blk_cell BK367.out 5).trans rfl; have hcz13_6 : w12.cell? ⟨gb367, 6, none⟩ = some (.bool false) := (blk_cell BK367.out 6).trans rfl; have hfz13_0 := blk_frozen BK367.out 0; have hfz13_1 := blk_frozen BK367.out 1; have hfz13_2 := blk_frozen BK367.out 2; have hfz13_3 := blk_frozen BK367.out 3; have hfz13_4 := blk_frozen BK367.out 4; have hfz13_5 := blk_frozen BK367.out 5; have hfz13_6 := blk_frozen BK367.out 6))
                  have n0_ : Aside0 (Kd.R (Kd.int .i64) 3 (((((((w12.setCell ⟨gb367, 0, none⟩ (.int .i64 ((rd_T27 l0 x18_1).f0.f0))).setCell ⟨gb367, 1, none⟩ (.int .i64 ((rd_T27 l0 x18_1).f0.f1))).setCell ⟨gb367, 2, none⟩ (.int .i64 ((rd_T27 l0 x18_1).f1.f0))).setCell ⟨gb367, 3, none⟩ (.int .i64 ((rd_T27 l0 x18_1).f1.f1))).setCell ⟨gb367, 4, none⟩ (.int .i64 ((rd_T27 l0 x18_1).f2))).setCell ⟨gb367, 5, none⟩ (.int .i64 ((rd_T27 l0 x18_1).f3))).setCell ⟨gb367, 6, none⟩ (.bool ((rd_T27 l0 x18_1).f4))) w.heap.size (fun _ => True) u7 x7_1) := ⟨by (with_reducible repeat (first | apply Kd.R_alloc | apply Kd.R_drewN | apply Kd.R_drew)); exact Kd.R_mono (Kd.R_far (p := ⟨gb367, 6, none⟩) (Kd.R_far (p := ⟨gb367, 5, none⟩) (Kd.R_far (p := ⟨gb367, 4, none⟩) (Kd.R_far (p := ⟨gb367, 3, none⟩) (Kd.R_far (p := ⟨gb367, 2, none⟩) (Kd.R_far (p := ⟨gb367, 1, none⟩) (Kd.R_far (p := ⟨gb367, 0, none⟩) (Kd.R_types HO_7.out BK367.out (by decide)) (fun _ hk => hk.2) (.int .i64 ((rd_T27 l0 x18_1).f0.f0))) (fun _ hk => hk.2) (.int .i64 ((rd_T27 l0 x18_1).f0.f1))) (fun _ hk => hk.2) (.int .i64 ((rd_T27 l0 x18_1).f1.f0))) (fun _ hk => hk.2) (.int .i64 ((rd_T27 l0 x18_1).f1.f1))) (fun _ hk => hk.2) (.int .i64 ((rd_T27 l0 x18_1).f2))) (fun _ hk => hk.2) (.int .i64 ((rd_T27 l0 x18_1).f3))) (fun _ hk => hk.2) (.bool ((rd_T27 l0 x18_1).f4))) (fun _ hk => trivial)⟩
                  have n1_ : Aside0 ((((((((w12.setCell ⟨gb367, 0, none⟩ (.int .i64 ((rd_T27 l0 x18_1).f0.f0))).setCell ⟨gb367, 1, none⟩ (.int .i64 ((rd_T27 l0 x18_1).f0.f1))).setCell ⟨gb367, 2, none⟩ (.int .i64 ((rd_T27 l0 x18_1).f1.f0))).setCell ⟨gb367, 3, none⟩ (.int .i64 ((rd_T27 l0 x18_1).f1.f1))).setCell ⟨gb367, 4, none⟩ (.int .i64 ((rd_T27 l0 x18_1).f2))).setCell ⟨gb367, 5, none⟩ (.int .i64 ((rd_T27 l0 x18_1).f3))).setCell ⟨gb367, 6, none⟩ (.bool ((rd_T27 l0 x18_1).f4))).heap[gb367]? = some (.cells #[.int .i64 ((rd_T27 l0 x18_1).f0.f0), .int .i64 ((rd_T27 l0 x18_1).f0.f1), .int .i64 ((rd_T27 l0 x18_1).f1.f0), .int .i64 ((rd_T27 l0 x18_1).f1.f1), .int .i64 ((rd_T27 l0 x18_1).f2), .int .i64 ((rd_T27 l0 x18_1).f3), .bool ((rd_T27 l0 x18_1).f4)] 27 (0, 0))) := ⟨by (with_reducible repeat (first | refine blk_drewN ?_ _ | refine blk_drew ?_ | refine blk_alloc ?_ _)); refine blk_put (cs := #[.int .i64 ((rd_T27 l0 x18_1).f0.f0), .int .i64 ((rd_T27 l0 x18_1).f0.f1), .int .i64 ((rd_T27 l0 x18_1).f1.f0), .int .i64 ((rd_T27 l0 x18_1).f1.f1), .int .i64 ((rd_T27 l0 x18_1).f2), .int .i64 ((rd_T27 l0 x18_1).f3), .bool false]) ?_ 6 _ rfl; (with_reducible repeat (first | refine blk_drewN ?_ _ | refine blk_drew ?_ | refine blk_alloc ?_ _)); refine blk_put (cs := #[.int .i64 ((rd_T27 l0 x18_1).f0.f0), .int .i64 ((rd_T27 l0 x18_1).f0.f1), .int .i64 ((rd_T27 l0 x18_1).f1.f0), .int .i64 ((rd_T27 l0 x18_1).f1.f1), .int .i64 ((rd_T27 l0 x18_1).f2), .int .i64 0, .bool false]) ?_ 5 _ rfl; (with_reducible repeat (first | refine blk_drewN ?_ _ | refine blk_drew ?_ | refine blk_alloc ?_ _)); refine blk_put (cs := #[.int .i64 ((rd_T27 l0 x18_1).f0.f0), .int .i64 ((rd_T27 l0 x18_1).f0.f1), .int .i64 ((rd_T27 l0 x18_1).f1.f0), .int .i64 ((rd_T27 l0 x18_1).f1.f1), .int .i64 0, .int .i64 0, .bool false]) ?_ 4 _ rfl; (with_reducible repeat (first | refine blk_drewN ?_ _ | refine blk_drew ?_ | refine blk_alloc ?_ _)); refine blk_put (cs := #[.int .i64 ((rd_T27 l0 x18_1).f0.f0), .int .i64 ((rd_T27 l0 x18_1).f0.f1), .int .i64 ((rd_T27 l0 x18_1).f1.f0), .int .i64 0, .int .i64 0, .int .i64 0, .bool false]) ?_ 3 _ rfl; (with_reducible repeat (first | refine blk_drewN ?_ _ | refine blk_drew ?_ | refine blk_alloc ?_ _)); refine blk_put (cs := #[.int .i64 ((rd_T27 l0 x18_1).f0.f0), .int .i64 ((rd_T27 l0 x18_1).f0.f1), .int .i64 0, .int .i64 0, .int .i64 0, .int .i64 0, .bool false]) ?_ 2 _ rfl; (with_reducible repeat (first | refine blk_drewN ?_ _ | refine blk_drew ?_ | refine blk_alloc ?_ _)); refine blk_put (cs := #[.int .i64 ((rd_T27 l0 x18_1).f0.f0), .int .i64 0, .int .i64 0, .int .i64 0, .int .i64 0, .int .i64 0, .bool false]) ?_ 1 _ rfl; (with_reducible repeat (first | refine blk_drewN ?_ _ | refine blk_drew ?_ | refine blk_alloc ?_ _)); refine blk_put (cs := #[.int .i64 0, .int .i64 0, .int .i64 0, .int .i64 0, .int .i64 0, .int .i64 0, .bool false]) ?_ 0 _ rfl; (with_reducible repeat (first | refine blk_drewN ?_ _ | refine blk_drew ?_ | refine blk_alloc ?_ _)); exact BK367.out⟩
                  have n2_ : Aside0 (Below w.heap.size w (((((((w12.setCell ⟨gb367, 0, none⟩ (.int .i64 ((rd_T27 l0 x18_1).f0.f0))).setCell ⟨gb367, 1, none⟩ (.int .i64 ((rd_T27 l0 x18_1).f0.f1))).setCell ⟨gb367, 2, none⟩ (.int .i64 ((rd_T27 l0 x18_1).f1.f0))).setCell ⟨gb367, 3, none⟩ (.int .i64 ((rd_T27 l0 x18_1).f1.f1))).setCell ⟨gb367, 4, none⟩ (.int .i64 ((rd_T27 l0 x18_1).f2))).setCell ⟨gb367, 5, none⟩ (.int .i64 ((rd_T27 l0 x18_1).f3))).setCell ⟨gb367, 6, none⟩ (.bool ((rd_T27 l0 x18_1).f4)))) := ⟨by repeat (first | (with_reducible first | exact HB.out | apply below_alloc | apply pw_below_drewN | apply below_drew1 | refine below_set ?_ GE367.out) | exact HB.out)⟩
                  (try clear HO_7)
                  (try clear BK367)
                  (try clear HB)
                  generalize (((((((w12.setCell ⟨gb367, 0, none⟩ (.int .i64 ((rd_T27 l0 x18_1).f0.f0))).setCell ⟨gb367, 1, none⟩ (.int .i64 ((rd_T27 l0 x18_1).f0.f1))).setCell ⟨gb367, 2, none⟩ (.int .i64 ((rd_T27 l0 x18_1).f1.f0))).setCell ⟨gb367, 3, none⟩ (.int .i64 ((rd_T27 l0 x18_1).f1.f1))).setCell ⟨gb367, 4, none⟩ (.int .i64 ((rd_T27 l0 x18_1).f2))).setCell ⟨gb367, 5, none⟩ (.int .i64 ((rd_T27 l0 x18_1).f3))).setCell ⟨gb367, 6, none⟩ (.bool ((rd_T27 l0 x18_1).f4))) = w14 at n0_ n1_ n2_ ⊢
                  have HO_7 := n0_
                  have BK367 := n1_
                  have HB := n2_
                  clear n0_ n1_ n2_
                  have n0_ := Aside0.mk (Kd.R_drew HO_7.out)
                  have n1_ := Aside0.mk (blk_drew BK367.out)
                  have n2_ := Aside0.mk (below_drew1 HB.out)
                  clear HO_7
                  clear BK367
                  clear HB
                  have HO_7 := n0_
                  have BK367 := n1_
                  have HB := n2_
                  clear n0_ n1_ n2_
                  have p368 : 0 ≤ (x18_1 : Int) := of_decide_eq_true (by first | (with_reducible assumption) | assumption)
                  have q368 : x18_1 < (l1.length : Int) := of_decide_eq_true (by first | (with_reducible assumption) | assumption)
                  obtain ⟨ad368, e368, hx368_0, hx368_1, hx368_2⟩ := at_T68 HR1.out x18_1 p368 q368
                  have hw368_2 := hx368_2
                  have hw368_1 := hx368_1
                  have hw368_0 := hx368_0
                  cases e368
                  replace hx368_0 := (HB.out.cell (World.block_lt_of_cell? w _ hx368_0)).trans hx368_0
                  replace hx368_1 := (HB.out.cell (World.block_lt_of_cell? w _ hx368_1)).trans hx368_1
                  replace hx368_2 := (HB.out.cell (World.block_lt_of_cell? w _ hx368_2)).trans hx368_2
                  replace p368 := eq_true p368
                  replace q368 := eq_true q368
                  refine start_ (n := 7) (S := fun w' => w'.cell? ⟨gb367, 0, none⟩ = some (.int .i64 ((rd_T27 l0 x18_1).f0.f0)) ∧ w'.cell? ⟨gb367, 1, none⟩ = some (.int .i64 ((rd_T27 l0 x18_1).f0.f1)) ∧ w'.cell? ⟨gb367, 2, none⟩ = some (.int .i64 ((rd_T27 l0 x18_1).f1.f0)) ∧ w'.cell? ⟨gb367, 3, none⟩ = some (.int .i64 ((rd_T27 l0 x18_1).f1.f1)) ∧ w'.cell? ⟨gb367, 4, none⟩ = some (.int .i64 ((rd_T27 l0 x18_1).f2)) ∧ w'.cell? ⟨gb367, 5, none⟩ = some (.int .i64 ((rd_T27 l0 x18_1).f3)) ∧ w'.cell? ⟨gb367, 6, none⟩ = some (.bool ((rd_T27 l0 x18_1).f4)) ∧ w'.cell? (ad368.add ((x18_1).toNat * 3)) = some (.int .i64 ((rd_T68 l1 x18_1).f0.f0)) ∧ w'.cell? ⟨(ad368.add ((x18_1).toNat * 3)).block, (ad368.add ((x18_1).toNat * 3)).off + 1, none⟩ = some (.int .i64 ((rd_T68 l1 x18_1).f0.f1)) ∧ w'.cell? ⟨(ad368.add ((x18_1).toNat * 3)).block, (ad368.add ((x18_1).toNat * 3)).off + 2, none⟩ = some (.int .i64 ((rd_T68 l1 x18_1).f1))) (ds := []) #[false, false, false, false, false, false, false] (by kernel_rfl) rfl rfl ⟨(blk_cell BK367.out 0).trans rfl, (blk_cell BK367.out 1).trans rfl, (blk_cell BK367.out 2).trans rfl, (blk_cell BK367.out 3).trans rfl, (blk_cell BK367.out 4).trans rfl, (blk_cell BK367.out 5).trans rfl, (blk_cell BK367.out 6).trans rfl, ((HB.out.cell (World.block_lt_of_cell? w _ hw368_0)).trans hw368_0), ((HB.out.cell (World.block_lt_of_cell? w _ hw368_1)).trans hw368_1), ((HB.out.cell (World.block_lt_of_cell? w _ hw368_2)).trans hw368_2)⟩ (fun hHeld => ?_)
                  generalize w14.drew = w15 at HO_7 BK367 HB hx368_0 hx368_1 hx368_2 hHeld ⊢
                  refine pure_ (i := 1) (N := some 24) (v := ?_) (a' := ?_) #[false, true, false, false, false, false, false] rfl rfl (by kernel_rfl) (fun _ _ _ h => h) (Or.inl ⟨by rfl, ?_⟩) ?_ ?_
                  rotate_left
                  · intro w'
                    go_simp
                    with_reducible rfl
                  rotate_left
                  · simp only [Act.put, List.setIfInBounds_toArray, List.set_cons_zero, List.set_cons_succ, i64_w, i32_w]
                    rfl
                  refine pure_ (i := 2) (N := some 25) (v := ?_) (a' := ?_) #[false, true, true, false, false, false, false] rfl rfl (by kernel_rfl) (fun _ _ _ h => h) (Or.inl ⟨by rfl, ?_⟩) ?_ ?_
                  rotate_left
                  · intro w'
                    go_simp
                    with_reducible rfl
                  rotate_left
                  · simp only [Act.put, List.setIfInBounds_toArray, List.set_cons_zero, List.set_cons_succ, i64_w, i32_w]
                    rfl
                  refine pure_ (i := 3) (N := some 26) (v := ?_) (a' := ?_) #[false, true, true, true, false, false, false] rfl rfl (by kernel_rfl) (fun _ _ _ h => h) (Or.inl ⟨by rfl, ?_⟩) ?_ ?_
                  rotate_left
                  · intro w'
                    go_simp
                    with_reducible rfl
                  rotate_left
                  · simp only [Act.put, List.setIfInBounds_toArray, List.set_cons_zero, List.set_cons_succ, i64_w, i32_w]
                    rfl
                  refine take_ (i := 0) (N := some 23) (v := ?_) (a' := ?_) #[true, true, true, true, false, false, false] rfl rfl (by kernel_rfl) (fun _ _ _ h => h) (Or.inl ⟨by rfl, ?_⟩) hHeld ?_ ?_
                  rotate_left
                  · rintro w' ⟨s0, s1, s2, s3, s4, s5, s6, s7, s8, s9⟩
                    go_simp
                    with_reducible rfl
                  rotate_left
                  · simp only [Act.put, List.setIfInBounds_toArray, List.set_cons_zero, List.set_cons_succ, i64_w, i32_w]
                    rfl
                  refine take_ (i := 4) (N := some 27) (v := ?_) (a' := ?_) #[true, true, true, true, true, false, false] rfl rfl (by kernel_rfl) (fun _ _ _ h => h) (Or.inl ⟨by rfl, ?_⟩) hHeld ?_ ?_
                  rotate_left
                  · rintro w' ⟨s0, s1, s2, s3, s4, s5, s6, s7, s8, s9⟩
                    go_simp
                    with_reducible rfl
                  rotate_left
                  · simp only [Act.put, List.setIfInBounds_toArray, List.set_cons_zero, List.set_cons_succ, i64_w, i32_w]
                    rfl
                  refine one_ (i := 5) (N := some 28) #[true, true, true, true, true, true, false] rfl rfl (by kernel_rfl) (by decide) (fun K hK => ?_)
                  refine goes_ Tryd.func95 (by kernel_rfl) rfl #[.agg #[.int .i64 ((rd_T27 l0 x18_1).f0.f0), .int .i64 ((rd_T27 l0 x18_1).f0.f1), .int .i64 ((rd_T27 l0 x18_1).f1.f0), .int .i64 ((rd_T27 l0 x18_1).f1.f1), .int .i64 ((rd_T27 l0 x18_1).f2), .int .i64 ((rd_T27 l0 x18_1).f3), .bool ((rd_T27 l0 x18_1).f4)], .agg #[.int .i64 ((rd_T68 l1 x18_1).f0.f0), .int .i64 ((rd_T68 l1 x18_1).f0.f1), .int .i64 ((rd_T68 l1 x18_1).f1)]] (by rfl) rfl rfl (by (try simp only [List.map_toArray, List.map_cons, List.map_nil]); first | done | rfl | (simp only [List.length_drop, List.length_take]; rfl)) ?_
                  with_reducible refine (bonus_good.calls ((rd_T27 l0 x18_1).f0.f0) ((rd_T27 l0 x18_1).f0.f1) ((rd_T27 l0 x18_1).f1.f0) ((rd_T27 l0 x18_1).f1.f1) ((rd_T27 l0 x18_1).f2) ((rd_T27 l0 x18_1).f3) ((rd_T27 l0 x18_1).f4) ((rd_T68 l1 x18_1).f0.f0) ((rd_T68 l1 x18_1).f0.f1) ((rd_T68 l1 x18_1).f1) true _ A10.out (by exact sig_below HS.out (by repeat (first | (with_reducible first | exact HB.out | apply below_alloc | apply pw_below_drewN | apply below_drew1 | refine below_set ?_ GE367.out) | exact HB.out)))).mono ?_
                  rintro e w16 ⟨rfl, hb⟩
                  refine ⟨_, rfl, ?_⟩
                  have n0_ := Aside0.mk (Kd.R_below (by (with_reducible repeat (first | apply Kd.R_alloc | apply Kd.R_drewN | apply Kd.R_drew)); exact HO_7.out) hb)
                  have n1_ := Aside0.mk (blk_below (g := gb367) (o := .cells #[.int .i64 ((rd_T27 l0 x18_1).f0.f0), .int .i64 ((rd_T27 l0 x18_1).f0.f1), .int .i64 ((rd_T27 l0 x18_1).f1.f0), .int .i64 ((rd_T27 l0 x18_1).f1.f1), .int .i64 ((rd_T27 l0 x18_1).f2), .int .i64 ((rd_T27 l0 x18_1).f3), .bool ((rd_T27 l0 x18_1).f4)] 27 (0, 0)) (by (with_reducible repeat (first | refine blk_drewN ?_ _ | refine blk_drew ?_ | refine blk_alloc ?_ _)); exact BK367.out) hb)
                  have n2_ := Aside0.mk (below_step (by repeat (first | (with_reducible first | exact HB.out | apply below_alloc | apply pw_below_drewN | apply below_drew1 | refine below_set ?_ GE367.out) | exact HB.out)) hb)
                  clear HO_7
                  clear BK367
                  clear HB
                  have HO_7 := n0_
                  have BK367 := n1_
                  have HB := n2_
                  clear n0_ n1_ n2_
                  (try clear hb)
                  (try clear hb2)
                  (try clear hk)
                  (try clear hi)
                  refine hK.out _ _ ⟨(blk_cell BK367.out 0).trans rfl, (blk_cell BK367.out 1).trans rfl, (blk_cell BK367.out 2).trans rfl, (blk_cell BK367.out 3).trans rfl, (blk_cell BK367.out 4).trans rfl, (blk_cell BK367.out 5).trans rfl, (blk_cell BK367.out 6).trans rfl, ((HB.out.cell (World.block_lt_of_cell? w _ hw368_0)).trans hw368_0), ((HB.out.cell (World.block_lt_of_cell? w _ hw368_1)).trans hw368_1), ((HB.out.cell (World.block_lt_of_cell? w _ hw368_2)).trans hw368_2)⟩ (fun hHeld => ?_)
                  clear hK K
                  refine norm_ (a' := ?_) ?_ ?_
                  rotate_left
                  · show Act.put _ (some 28) _ = _
                    simp only [Act.put, List.setIfInBounds_toArray, List.set_cons_zero, List.set_cons_succ, i64_w, i32_w]
                    rfl
                  refine pure_ (i := 6) (N := some 29) (v := ?_) (a' := ?_) #[true, true, true, true, true, true, true] rfl rfl (by kernel_rfl) (fun _ _ _ h => h) (Or.inl ⟨by rfl, ?_⟩) ?_ ?_
                  rotate_left
                  · intro w'
                    go_simp
                    with_reducible rfl
                  rotate_left
                  · simp only [Act.put, List.setIfInBounds_toArray, List.set_cons_zero, List.set_cons_succ, i64_w, i32_w]
                    rfl
                  refine done_ (by kernel_rfl) ?_
                  try go_wp2
                  go_roundg k1
                  case measure => have := HK1.out; omega
                  case rel => exact ⟨(x7_1), (wrap64 (x18_1 + 1)), (by first | rfl | (simp; done) | (simp [*]; done)), H', ⟨by have := HK1.out; omega⟩, ⟨by (with_reducible repeat (first | apply Kd.R_alloc | apply Kd.R_drewN | apply Kd.R_drew)); exact HO_7.out⟩, ⟨by repeat (first | (with_reducible first | exact HB.out | apply below_alloc | apply pw_below_drewN | apply below_drew1 | refine below_set ?_ GE367.out) | exact HB.out)⟩⟩
                · replace c11 := Bool.eq_false_iff.mpr c11
                  subst c11
                  have H1 : (if x7_1.length < 17592186044416 then (bonus_Failures.l0 k1 l1 (x7_1 ++ [x18_1]) l0 (l0.length : Int) (wrap64 (x18_1 + 1))) else (none)) = some (r1, r2) := by rw [if_neg (show ¬ (false = true) by decide)] at H; exact H
                  clear H
                  have H := H1
                  clear H1
                  by_cases c17 : x7_1.length < 17592186044416
                  · rw [if_pos c17] at H
                    have LMc17 := Aside0.mk c17
                    clear c17
                    obtain ⟨y370, hy370⟩ : ∃ y_ : List Int, y_ = (x7_1 ++ [x18_1]) := ⟨_, rfl⟩
                    replace H : (bonus_Failures.l0 k1 l1 y370 l0 (l0.length : Int) (wrap64 (x18_1 + 1))) = some (r1, r2) := by first | (rw [hy370]; with_reducible exact H) | (have H2_ := (Option.bind_some _ _).symm.trans H; rw [hy370]; with_reducible exact H2_) | (have H2_ := (Option.bind_some _ _).symm.trans H; with_reducible exact H2_) | with_reducible exact H | (rw [hy370]; exact H) | exact H
                    have Ny370 := Aside0.mk hy370
                    clear hy370
                    have H' := Aside0.mk H
                    clear H
                    have p366 : 0 ≤ (x18_1 : Int) := of_decide_eq_true (by first | (with_reducible assumption) | assumption)
                    have q366 : x18_1 < (l0.length : Int) := of_decide_eq_true (by first | (with_reducible assumption) | assumption)
                    obtain ⟨ad366, e366, hx366_0, hx366_1, hx366_2, hx366_3, hx366_4, hx366_5, hx366_6⟩ := at_T27 HR0.out x18_1 p366 q366
                    cases e366
                    replace hx366_0 := (HB.out.cell (World.block_lt_of_cell? w _ hx366_0)).trans hx366_0
                    replace hx366_1 := (HB.out.cell (World.block_lt_of_cell? w _ hx366_1)).trans hx366_1
                    replace hx366_2 := (HB.out.cell (World.block_lt_of_cell? w _ hx366_2)).trans hx366_2
                    replace hx366_3 := (HB.out.cell (World.block_lt_of_cell? w _ hx366_3)).trans hx366_3
                    replace hx366_4 := (HB.out.cell (World.block_lt_of_cell? w _ hx366_4)).trans hx366_4
                    replace hx366_5 := (HB.out.cell (World.block_lt_of_cell? w _ hx366_5)).trans hx366_5
                    replace hx366_6 := (HB.out.cell (World.block_lt_of_cell? w _ hx366_6)).trans hx366_6
                    replace p366 := eq_true p366
                    replace q366 := eq_true q366
                    try go_wp2_with (first | ((with_reducible refine gate_dst (N := 9) rfl ?_); refine box_event ?hg (N := 9) ?hd (cs := #[.int .i64 0, .int .i64 0, .int .i64 0, .int .i64 0, .int .i64 0, .int .i64 0, .bool false]) (t := 27) ?hr ?_; (case hd => rfl); (case hg => rfl); (case hr => first | (go_simp; done) | (go_simp; rfl)); intro gb367 hg w18 hbox hb; have n0_ := Aside0.mk (Kd.R_below (by (with_reducible repeat (first | apply Kd.R_alloc | apply Kd.R_drewN | apply Kd.R_drew)); exact HO_7.out) hb); have n1_ := Aside0.mk (below_step (by repeat (first | (with_reducible first | exact HB.out | apply below_alloc | apply pw_below_drewN | apply below_drew1) | exact HB.out)) hb); have n2_ := Aside0.mk (hbox); have n3_ := Aside0.mk ((by rw [hg]; exact (below_size (by repeat (first | (with_reducible first | exact HB.out | apply below_alloc | apply pw_below_drewN | apply below_drew1) | exact HB.out))) : w.heap.size ≤ gb367)); have n4_ := Aside0.mk ((by rw [hg]; exact (below_size (by repeat (first | (with_reducible first | exact HB.out | apply below_alloc | apply pw_below_drewN | apply below_drew1) | exact HB.out))) : w.heap.size ≤ gb367)); clear HO_7; clear HB; have HO_7 := n0_; have HB := n1_; have BK367 := n2_; have GW367 := n3_; have GE367 := n4_; clear n0_ n1_ n2_ n3_ n4_; clear hb hbox hg; have hcz19_0 : w18.cell? ⟨gb367, 0, none⟩ = some (.int .i64 0) := (blk_cell BK367.out 0).trans rfl; have hcz19_1 : w18.cell? ⟨gb367, 1, none⟩ = some (.int .i64 0) := (blk_cell BK367.out 1).trans rfl; have hcz19_2 : w18.cell? ⟨gb367, 2, none⟩ = some (.int .i64 0) := (blk_cell BK367.out 2).trans rfl; have hcz19_3 : w18.cell? ⟨gb367, 3, none⟩ = some (.int .i64 0) := (blk_cell BK367.out 3).trans rfl; have hcz19_4 : w18.cell? ⟨gb367, 4, none⟩ = some (.int .i64 0) := (blk_cell BK367.out 4).trans rfl; have hcz19_5 : w18.cell? ⟨gb367, 5, none⟩ = some (.int .i64 0) := (blk_cell BK367.out 5).trans rfl; have hcz19_6 : w18.cell? ⟨gb367, 6, none⟩ = some (.bool false) := (blk_cell BK367.out 6).trans rfl; have hfz19_0 := blk_frozen BK367.out 0; have hfz19_1 := blk_frozen BK367.out 1; have hfz19_2 := blk_frozen BK367.out 2; have hfz19_3 := blk_frozen BK367.out 3; have hfz19_4 := blk_frozen BK367.out 4; have hfz19_5 := blk_frozen BK367.out 5; have hfz19_6 := blk_frozen BK367.out 6))
                    have n0_ : Aside0 (Kd.R (Kd.int .i64) 3 (((((((w18.setCell ⟨gb367, 0, none⟩ (.int .i64 ((rd_T27 l0 x18_1).f0.f0))).setCell ⟨gb367, 1, none⟩ (.int .i64 ((rd_T27 l0 x18_1).f0.f1))).setCell ⟨gb367, 2, none⟩ (.int .i64 ((rd_T27 l0 x18_1).f1.f0))).setCell ⟨gb367, 3, none⟩ (.int .i64 ((rd_T27 l0 x18_1).f1.f1))).setCell ⟨gb367, 4, none⟩ (.int .i64 ((rd_T27 l0 x18_1).f2))).setCell ⟨gb367, 5, none⟩ (.int .i64 ((rd_T27 l0 x18_1).f3))).setCell ⟨gb367, 6, none⟩ (.bool ((rd_T27 l0 x18_1).f4))) w.heap.size (fun _ => True) u7 x7_1) := ⟨by (with_reducible repeat (first | apply Kd.R_alloc | apply Kd.R_drewN | apply Kd.R_drew)); exact Kd.R_mono (Kd.R_far (p := ⟨gb367, 6, none⟩) (Kd.R_far (p := ⟨gb367, 5, none⟩) (Kd.R_far (p := ⟨gb367, 4, none⟩) (Kd.R_far (p := ⟨gb367, 3, none⟩) (Kd.R_far (p := ⟨gb367, 2, none⟩) (Kd.R_far (p := ⟨gb367, 1, none⟩) (Kd.R_far (p := ⟨gb367, 0, none⟩) (Kd.R_types HO_7.out BK367.out (by decide)) (fun _ hk => hk.2) (.int .i64 ((rd_T27 l0 x18_1).f0.f0))) (fun _ hk => hk.2) (.int .i64 ((rd_T27 l0 x18_1).f0.f1))) (fun _ hk => hk.2) (.int .i64 ((rd_T27 l0 x18_1).f1.f0))) (fun _ hk => hk.2) (.int .i64 ((rd_T27 l0 x18_1).f1.f1))) (fun _ hk => hk.2) (.int .i64 ((rd_T27 l0 x18_1).f2))) (fun _ hk => hk.2) (.int .i64 ((rd_T27 l0 x18_1).f3))) (fun _ hk => hk.2) (.bool ((rd_T27 l0 x18_1).f4))) (fun _ hk => trivial)⟩
                    have n1_ : Aside0 ((((((((w18.setCell ⟨gb367, 0, none⟩ (.int .i64 ((rd_T27 l0 x18_1).f0.f0))).setCell ⟨gb367, 1, none⟩ (.int .i64 ((rd_T27 l0 x18_1).f0.f1))).setCell ⟨gb367, 2, none⟩ (.int .i64 ((rd_T27 l0 x18_1).f1.f0))).setCell ⟨gb367, 3, none⟩ (.int .i64 ((rd_T27 l0 x18_1).f1.f1))).setCell ⟨gb367, 4, none⟩ (.int .i64 ((rd_T27 l0 x18_1).f2))).setCell ⟨gb367, 5, none⟩ (.int .i64 ((rd_T27 l0 x18_1).f3))).setCell ⟨gb367, 6, none⟩ (.bool ((rd_T27 l0 x18_1).f4))).heap[gb367]? = some (.cells #[.int .i64 ((rd_T27 l0 x18_1).f0.f0), .int .i64 ((rd_T27 l0 x18_1).f0.f1), .int .i64 ((rd_T27 l0 x18_1).f1.f0), .int .i64 ((rd_T27 l0 x18_1).f1.f1), .int .i64 ((rd_T27 l0 x18_1).f2), .int .i64 ((rd_T27 l0 x18_1).f3), .bool ((rd_T27 l0 x18_1).f4)] 27 (0, 0))) := ⟨by (with_reducible repeat (first | refine blk_drewN ?_ _ | refine blk_drew ?_ | refine blk_alloc ?_ _)); refine blk_put (cs := #[.int .i64 ((rd_T27 l0 x18_1).f0.f0), .int .i64 ((rd_T27 l0 x18_1).f0.f1), .int .i64 ((rd_T27 l0 x18_1).f1.f0), .int .i64 ((rd_T27 l0 x18_1).f1.f1), .int .i64 ((rd_T27 l0 x18_1).f2), .int .i64 ((rd_T27 l0 x18_1).f3), .bool false]) ?_ 6 _ rfl; (with_reducible repeat (first | refine blk_drewN ?_ _ | refine blk_drew ?_ | refine blk_alloc ?_ _)); refine blk_put (cs := #[.int .i64 ((rd_T27 l0 x18_1).f0.f0), .int .i64 ((rd_T27 l0 x18_1).f0.f1), .int .i64 ((rd_T27 l0 x18_1).f1.f0), .int .i64 ((rd_T27 l0 x18_1).f1.f1), .int .i64 ((rd_T27 l0 x18_1).f2), .int .i64 0, .bool false]) ?_ 5 _ rfl; (with_reducible repeat (first | refine blk_drewN ?_ _ | refine blk_drew ?_ | refine blk_alloc ?_ _)); refine blk_put (cs := #[.int .i64 ((rd_T27 l0 x18_1).f0.f0), .int .i64 ((rd_T27 l0 x18_1).f0.f1), .int .i64 ((rd_T27 l0 x18_1).f1.f0), .int .i64 ((rd_T27 l0 x18_1).f1.f1), .int .i64 0, .int .i64 0, .bool false]) ?_ 4 _ rfl; (with_reducible repeat (first | refine blk_drewN ?_ _ | refine blk_drew ?_ | refine blk_alloc ?_ _)); refine blk_put (cs := #[.int .i64 ((rd_T27 l0 x18_1).f0.f0), .int .i64 ((rd_T27 l0 x18_1).f0.f1), .int .i64 ((rd_T27 l0 x18_1).f1.f0), .int .i64 0, .int .i64 0, .int .i64 0, .bool false]) ?_ 3 _ rfl; (with_reducible repeat (first | refine blk_drewN ?_ _ | refine blk_drew ?_ | refine blk_alloc ?_ _)); refine blk_put (cs := #[.int .i64 ((rd_T27 l0 x18_1).f0.f0), .int .i64 ((rd_T27 l0 x18_1).f0.f1), .int .i64 0, .int .i64 0, .int .i64 0, .int .i64 0, .bool false]) ?_ 2 _ rfl; (with_reducible repeat (first | refine blk_drewN ?_ _ | refine blk_drew ?_ | refine blk_alloc ?_ _)); refine blk_put (cs := #[.int .i64 ((rd_T27 l0 x18_1).f0.f0), .int .i64 0, .int .i64 0, .int .i64 0, .int .i64 0, .int .i64 0, .bool false]) ?_ 1 _ rfl; (with_reducible repeat (first | refine blk_drewN ?_ _ | refine blk_drew ?_ | refine blk_alloc ?_ _)); refine blk_put (cs := #[.int .i64 0, .int .i64 0, .int .i64 0, .int .i64 0, .int .i64 0, .int .i64 0, .bool false]) ?_ 0 _ rfl; (with_reducible repeat (first | refine blk_drewN ?_ _ | refine blk_drew ?_ | refine blk_alloc ?_ _)); exact BK367.out⟩
                    have n2_ : Aside0 (Below w.heap.size w (((((((w18.setCell ⟨gb367, 0, none⟩ (.int .i64 ((rd_T27 l0 x18_1).f0.f0))).setCell ⟨gb367, 1, none⟩ (.int .i64 ((rd_T27 l0 x18_1).f0.f1))).setCell ⟨gb367, 2, none⟩ (.int .i64 ((rd_T27 l0 x18_1).f1.f0))).setCell ⟨gb367, 3, none⟩ (.int .i64 ((rd_T27 l0 x18_1).f1.f1))).setCell ⟨gb367, 4, none⟩ (.int .i64 ((rd_T27 l0 x18_1).f2))).setCell ⟨gb367, 5, none⟩ (.int .i64 ((rd_T27 l0 x18_1).f3))).setCell ⟨gb367, 6, none⟩ (.bool ((rd_T27 l0 x18_1).f4)))) := ⟨by repeat (first | (with_reducible first | exact HB.out | apply below_alloc | apply pw_below_drewN | apply below_drew1 | refine below_set ?_ GE367.out) | exact HB.out)⟩
                    (try clear HO_7)
                    (try clear BK367)
                    (try clear HB)
                    generalize (((((((w18.setCell ⟨gb367, 0, none⟩ (.int .i64 ((rd_T27 l0 x18_1).f0.f0))).setCell ⟨gb367, 1, none⟩ (.int .i64 ((rd_T27 l0 x18_1).f0.f1))).setCell ⟨gb367, 2, none⟩ (.int .i64 ((rd_T27 l0 x18_1).f1.f0))).setCell ⟨gb367, 3, none⟩ (.int .i64 ((rd_T27 l0 x18_1).f1.f1))).setCell ⟨gb367, 4, none⟩ (.int .i64 ((rd_T27 l0 x18_1).f2))).setCell ⟨gb367, 5, none⟩ (.int .i64 ((rd_T27 l0 x18_1).f3))).setCell ⟨gb367, 6, none⟩ (.bool ((rd_T27 l0 x18_1).f4))) = w20 at n0_ n1_ n2_ ⊢
                    have HO_7 := n0_
                    have BK367 := n1_
                    have HB := n2_
                    clear n0_ n1_ n2_
                    have n0_ := Aside0.mk (Kd.R_drew HO_7.out)
                    have n1_ := Aside0.mk (blk_drew BK367.out)
                    have n2_ := Aside0.mk (below_drew1 HB.out)
                    clear HO_7
                    clear BK367
                    clear HB
                    have HO_7 := n0_
                    have BK367 := n1_
                    have HB := n2_
                    clear n0_ n1_ n2_
                    have p368 : 0 ≤ (x18_1 : Int) := of_decide_eq_true (by first | (with_reducible assumption) | assumption)
                    have q368 : x18_1 < (l1.length : Int) := of_decide_eq_true (by first | (with_reducible assumption) | assumption)
                    obtain ⟨ad368, e368, hx368_0, hx368_1, hx368_2⟩ := at_T68 HR1.out x18_1 p368 q368
                    have hw368_2 := hx368_2
                    have hw368_1 := hx368_1
                    have hw368_0 := hx368_0
                    cases e368
                    replace hx368_0 := (HB.out.cell (World.block_lt_of_cell? w _ hx368_0)).trans hx368_0
                    replace hx368_1 := (HB.out.cell (World.block_lt_of_cell? w _ hx368_1)).trans hx368_1
                    replace hx368_2 := (HB.out.cell (World.block_lt_of_cell? w _ hx368_2)).trans hx368_2
                    replace p368 := eq_true p368
                    replace q368 := eq_true q368
                    refine start_ (n := 7) (S := fun w' => w'.cell? ⟨gb367, 0, none⟩ = some (.int .i64 ((rd_T27 l0 x18_1).f0.f0)) ∧ w'.cell? ⟨gb367, 1, none⟩ = some (.int .i64 ((rd_T27 l0 x18_1).f0.f1)) ∧ w'.cell? ⟨gb367, 2, none⟩ = some (.int .i64 ((rd_T27 l0 x18_1).f1.f0)) ∧ w'.cell? ⟨gb367, 3, none⟩ = some (.int .i64 ((rd_T27 l0 x18_1).f1.f1)) ∧ w'.cell? ⟨gb367, 4, none⟩ = some (.int .i64 ((rd_T27 l0 x18_1).f2)) ∧ w'.cell? ⟨gb367, 5, none⟩ = some (.int .i64 ((rd_T27 l0 x18_1).f3)) ∧ w'.cell? ⟨gb367, 6, none⟩ = some (.bool ((rd_T27 l0 x18_1).f4)) ∧ w'.cell? (ad368.add ((x18_1).toNat * 3)) = some (.int .i64 ((rd_T68 l1 x18_1).f0.f0)) ∧ w'.cell? ⟨(ad368.add ((x18_1).toNat * 3)).block, (ad368.add ((x18_1).toNat * 3)).off + 1, none⟩ = some (.int .i64 ((rd_T68 l1 x18_1).f0.f1)) ∧ w'.cell? ⟨(ad368.add ((x18_1).toNat * 3)).block, (ad368.add ((x18_1).toNat * 3)).off + 2, none⟩ = some (.int .i64 ((rd_T68 l1 x18_1).f1))) (ds := []) #[false, false, false, false, false, false, false] (by kernel_rfl) rfl rfl ⟨(blk_cell BK367.out 0).trans rfl, (blk_cell BK367.out 1).trans rfl, (blk_cell BK367.out 2).trans rfl, (blk_cell BK367.out 3).trans rfl, (blk_cell BK367.out 4).trans rfl, (blk_cell BK367.out 5).trans rfl, (blk_cell BK367.out 6).trans rfl, ((HB.out.cell (World.block_lt_of_cell? w _ hw368_0)).trans hw368_0), ((HB.out.cell (World.block_lt_of_cell? w _ hw368_1)).trans hw368_1), ((HB.out.cell (World.block_lt_of_cell? w _ hw368_2)).trans hw368_2)⟩ (fun hHeld => ?_)
                    generalize w20.drew = w21 at HO_7 BK367 HB hx368_0 hx368_1 hx368_2 hHeld ⊢
                    refine pure_ (i := 1) (N := some 24) (v := ?_) (a' := ?_) #[false, true, false, false, false, false, false] rfl rfl (by kernel_rfl) (fun _ _ _ h => h) (Or.inl ⟨by rfl, ?_⟩) ?_ ?_
                    rotate_left
                    · intro w'
                      go_simp
                      with_reducible rfl
                    rotate_left
                    · simp only [Act.put, List.setIfInBounds_toArray, List.set_cons_zero, List.set_cons_succ, i64_w, i32_w]
                      rfl
                    refine pure_ (i := 2) (N := some 25) (v := ?_) (a' := ?_) #[false, true, true, false, false, false, false] rfl rfl (by kernel_rfl) (fun _ _ _ h => h) (Or.inl ⟨by rfl, ?_⟩) ?_ ?_
                    rotate_left
                    · intro w'
                      go_simp
                      with_reducible rfl
                    rotate_left
                    · simp only [Act.put, List.setIfInBounds_toArray, List.set_cons_zero, List.set_cons_succ, i64_w, i32_w]
                      rfl
                    refine pure_ (i := 3) (N := some 26) (v := ?_) (a' := ?_) #[false, true, true, true, false, false, false] rfl rfl (by kernel_rfl) (fun _ _ _ h => h) (Or.inl ⟨by rfl, ?_⟩) ?_ ?_
                    rotate_left
                    · intro w'
                      go_simp
                      with_reducible rfl
                    rotate_left
                    · simp only [Act.put, List.setIfInBounds_toArray, List.set_cons_zero, List.set_cons_succ, i64_w, i32_w]
                      rfl
                    refine take_ (i := 0) (N := some 23) (v := ?_) (a' := ?_) #[true, true, true, true, false, false, false] rfl rfl (by kernel_rfl) (fun _ _ _ h => h) (Or.inl ⟨by rfl, ?_⟩) hHeld ?_ ?_
                    rotate_left
                    · rintro w' ⟨s0, s1, s2, s3, s4, s5, s6, s7, s8, s9⟩
                      go_simp
                      with_reducible rfl
                    rotate_left
                    · simp only [Act.put, List.setIfInBounds_toArray, List.set_cons_zero, List.set_cons_succ, i64_w, i32_w]
                      rfl
                    refine take_ (i := 4) (N := some 27) (v := ?_) (a' := ?_) #[true, true, true, true, true, false, false] rfl rfl (by kernel_rfl) (fun _ _ _ h => h) (Or.inl ⟨by rfl, ?_⟩) hHeld ?_ ?_
                    rotate_left
                    · rintro w' ⟨s0, s1, s2, s3, s4, s5, s6, s7, s8, s9⟩
                      go_simp
                      with_reducible rfl
                    rotate_left
                    · simp only [Act.put, List.setIfInBounds_toArray, List.set_cons_zero, List.set_cons_succ, i64_w, i32_w]
                      rfl
                    refine one_ (i := 5) (N := some 28) #[true, true, true, true, true, true, false] rfl rfl (by kernel_rfl) (by decide) (fun K hK => ?_)
                    refine goes_ Tryd.func95 (by kernel_rfl) rfl #[.agg #[.int .i64 ((rd_T27 l0 x18_1).f0.f0), .int .i64 ((rd_T27 l0 x18_1).f0.f1), .int .i64 ((rd_T27 l0 x18_1).f1.f0), .int .i64 ((rd_T27 l0 x18_1).f1.f1), .int .i64 ((rd_T27 l0 x18_1).f2), .int .i64 ((rd_T27 l0 x18_1).f3), .bool ((rd_T27 l0 x18_1).f4)], .agg #[.int .i64 ((rd_T68 l1 x18_1).f0.f0), .int .i64 ((rd_T68 l1 x18_1).f0.f1), .int .i64 ((rd_T68 l1 x18_1).f1)]] (by rfl) rfl rfl (by (try simp only [List.map_toArray, List.map_cons, List.map_nil]); first | done | rfl | (simp only [List.length_drop, List.length_take]; rfl)) ?_
                    with_reducible refine (bonus_good.calls ((rd_T27 l0 x18_1).f0.f0) ((rd_T27 l0 x18_1).f0.f1) ((rd_T27 l0 x18_1).f1.f0) ((rd_T27 l0 x18_1).f1.f1) ((rd_T27 l0 x18_1).f2) ((rd_T27 l0 x18_1).f3) ((rd_T27 l0 x18_1).f4) ((rd_T68 l1 x18_1).f0.f0) ((rd_T68 l1 x18_1).f0.f1) ((rd_T68 l1 x18_1).f1) false _ A10.out (by exact sig_below HS.out (by repeat (first | (with_reducible first | exact HB.out | apply below_alloc | apply pw_below_drewN | apply below_drew1 | refine below_set ?_ GE367.out) | exact HB.out)))).mono ?_
                    rintro e w22 ⟨rfl, hb⟩
                    refine ⟨_, rfl, ?_⟩
                    have n0_ := Aside0.mk (Kd.R_below (by (with_reducible repeat (first | apply Kd.R_alloc | apply Kd.R_drewN | apply Kd.R_drew)); exact HO_7.out) hb)
                    have n1_ := Aside0.mk (blk_below (g := gb367) (o := .cells #[.int .i64 ((rd_T27 l0 x18_1).f0.f0), .int .i64 ((rd_T27 l0 x18_1).f0.f1), .int .i64 ((rd_T27 l0 x18_1).f1.f0), .int .i64 ((rd_T27 l0 x18_1).f1.f1), .int .i64 ((rd_T27 l0 x18_1).f2), .int .i64 ((rd_T27 l0 x18_1).f3), .bool ((rd_T27 l0 x18_1).f4)] 27 (0, 0)) (by (with_reducible repeat (first | refine blk_drewN ?_ _ | refine blk_drew ?_ | refine blk_alloc ?_ _)); exact BK367.out) hb)
                    have n2_ := Aside0.mk (below_step (by repeat (first | (with_reducible first | exact HB.out | apply below_alloc | apply pw_below_drewN | apply below_drew1 | refine below_set ?_ GE367.out) | exact HB.out)) hb)
                    clear HO_7
                    clear BK367
                    clear HB
                    have HO_7 := n0_
                    have BK367 := n1_
                    have HB := n2_
                    clear n0_ n1_ n2_
                    (try clear hb)
                    (try clear hb2)
                    (try clear hk)
                    (try clear hi)
                    refine hK.out _ _ ⟨(blk_cell BK367.out 0).trans rfl, (blk_cell BK367.out 1).trans rfl, (blk_cell BK367.out 2).trans rfl, (blk_cell BK367.out 3).trans rfl, (blk_cell BK367.out 4).trans rfl, (blk_cell BK367.out 5).trans rfl, (blk_cell BK367.out 6).trans rfl, ((HB.out.cell (World.block_lt_of_cell? w _ hw368_0)).trans hw368_0), ((HB.out.cell (World.block_lt_of_cell? w _ hw368_1)).trans hw368_1), ((HB.out.cell (World.block_lt_of_cell? w _ hw368_2)).trans hw368_2)⟩ (fun hHeld => ?_)
                    clear hK K
                    refine norm_ (a' := ?_) ?_ ?_
                    rotate_left
                    · show Act.put _ (some 28) _ = _
                      simp only [Act.put, List.setIfInBounds_toArray, List.set_cons_zero, List.set_cons_succ, i64_w, i32_w]
                      rfl
                    refine pure_ (i := 6) (N := some 29) (v := ?_) (a' := ?_) #[true, true, true, true, true, true, true] rfl rfl (by kernel_rfl) (fun _ _ _ h => h) (Or.inl ⟨by rfl, ?_⟩) ?_ ?_
                    rotate_left
                    · intro w'
                      go_simp
                      with_reducible rfl
                    rotate_left
                    · simp only [Act.put, List.setIfInBounds_toArray, List.set_cons_zero, List.set_cons_succ, i64_w, i32_w]
                      rfl
                    refine done_ (by kernel_rfl) ?_
                    try go_wp2_with (first | ((with_reducible refine gate_builtin (b := .append) (xs := #[.tmp 30, .tmp 32]) rfl ?_); at_builtin; refine Kd.R_append (Kd.int .i64) (w0 := w) w.heap.size rfl (.tmp 30) (.tmp 32) 58 3 (.int .i64 0) 8 rfl Tryd.underlying58 info3 rfl (by decide) (by omega) u7 x7_1 x18_1 [.int .i64 x18_1] (fun _ => True) (fun _ => False) rfl rfl ?aP (fun _ hk => hk.elim) ?aF ?aO ?aB ?aS ?aL ?_; (case aP => exact rfl); (case aB => exact (by repeat (first | (with_reducible first | exact HB.out | apply below_alloc | apply pw_below_drewN | apply below_drew1 | refine below_set ?_ GE367.out) | exact HB.out))); (case aF => exact (fun _ _ => trivial)); (case aO => exact (by (with_reducible repeat (first | apply Kd.R_alloc | apply Kd.R_drewN | apply Kd.R_drew)); exact HO_7.out)); (case aS => exact (below_size (by repeat (first | (with_reducible first | exact HB.out | apply below_alloc | apply pw_below_drewN | apply below_drew1 | refine below_set ?_ GE367.out) | exact HB.out)))); (case aL => have := LMc17.out; omega); intro v371 w23 ho hb hg hat; rw [← Ny370.out] at ho; have n0_ := Aside0.mk (blk_grown (g := gb367) (o := .cells #[.int .i64 ((rd_T27 l0 x18_1).f0.f0), .int .i64 ((rd_T27 l0 x18_1).f0.f1), .int .i64 ((rd_T27 l0 x18_1).f1.f0), .int .i64 ((rd_T27 l0 x18_1).f1.f1), .int .i64 ((rd_T27 l0 x18_1).f2), .int .i64 ((rd_T27 l0 x18_1).f3), .bool ((rd_T27 l0 x18_1).f4)] 27 (0, 0)) (by (with_reducible repeat (first | refine blk_drewN ?_ _ | refine blk_drew ?_ | refine blk_alloc ?_ _)); exact BK367.out) hg (Kd.R_ne HO_7.out BK367.out (by decide))); have n1_ := Aside0.mk (hb); have n2_ := Aside0.mk (ho); clear BK367; clear HB; clear HO_7; have BK367 := n0_; have HB := n1_; have HO372 := n2_; clear n0_ n1_ n2_; clear ho hb hg hat))
                    go_roundg k1
                    case measure => have := HK1.out; omega
                    case rel => exact ⟨(y370), (wrap64 (x18_1 + 1)), (by first | rfl | (simp; done) | (simp [*]; done)), H', ⟨by have := HK1.out; omega⟩, ⟨by (with_reducible repeat (first | apply Kd.R_alloc | apply Kd.R_drewN | apply Kd.R_drew)); exact HO372.out⟩, ⟨by repeat (first | (with_reducible first | exact HB.out | apply below_alloc | apply pw_below_drewN | apply below_drew1 | refine below_set ?_ GE367.out) | exact HB.out)⟩⟩
                  · rw [if_neg c17] at H
                    exact absurd H (by simp)
              · rw [if_neg c9] at H
                exact absurd H (by simp)
            · rw [if_neg c8] at H
              exact absurd H (by simp)
          · rw [if_neg c7] at H
            exact absurd H (by simp)
        · rw [if_neg c6] at H
          have c6b0 : decide (x18_1 < (l0.length : Int)) = false := decide_eq_false c6
          clear c6
          simp only [Option.some.injEq, Prod.mk.injEq] at H
          obtain ⟨rfl, rfl⟩ := H
          go_wp2
          go_ret2
          exact ⟨_, by first | rfl | (simp [errW_none, errW_some] <;> rfl) | (simp [*, errW_none, errW_some] <;> rfl), by (with_reducible repeat (first | apply Kd.R_alloc | apply Kd.R_drewN | apply Kd.R_drew)); exact HO_7.out, by repeat (first | (with_reducible first | exact HB.out | apply below_alloc | apply pw_below_drewN | apply below_drew1) | exact HB.out)⟩
  · rw [if_neg c4] at H
    have c4b0 : (t365 == 0) = false := beq_eq_false_iff_ne.mpr c4
    have c4b1 : (t365 != 0) = true := bne_iff_ne.mpr c4
    simp only [Option.some.injEq, Prod.mk.injEq] at H
    obtain ⟨rfl, rfl⟩ := H
    go_enter Tryd.func51, Tryd.ntmps51
    go_wp2_with (first | ((with_reducible refine gate_callee (f := 53) rfl ?_); refine goesL_ (some 12) rfl rfl Tryd.func53 (by kernel_rfl) rfl #[.slice A0 l0.length c0, .slice A1 l1.length c1] rfl (by (try simp only [List.map_toArray, List.map_cons, List.map_nil]); first | done | rfl | (simp only [List.length_drop, List.length_take]; rfl)) ?_; (with_reducible refine (bonus_CheckPlate.calls k _ _ l0 _ _ l1 t365 _ ?side1 ?side2 ?side3 ?side4 A3.out).mono ?_); (case side1 => repeat (first | exact HR0.out | (with_reducible refine Kd.C_alloc ?_ _) | (with_reducible refine Kd.C_drewN ?_ _) | (with_reducible refine Kd.C_drew ?_))); (case side2 => exact HC0.out); (case side3 => repeat (first | exact HR1.out | (with_reducible refine Kd.C_alloc ?_ _) | (with_reducible refine Kd.C_drewN ?_ _) | (with_reducible refine Kd.C_drew ?_))); (case side4 => exact HC1.out); rintro e w24 ⟨rfl, hb⟩; refine ⟨_, rfl, ?_⟩; have n0_ := Aside0.mk (below_step (by repeat (first | (with_reducible first | exact HB.out | apply below_alloc | apply pw_below_drewN | apply below_drew1) | exact HB.out)) hb); clear HB; have HB := n0_; clear n0_; (try clear hb); (try clear hb2); (try clear hk); (try clear hi)))
    go_ret2
    exact ⟨_, by first | rfl | (simp [errW_none, errW_some] <;> rfl) | (simp [*, errW_none, errW_some] <;> rfl), by first | exact Kd.R_nil _ _ _ _ _ | exact Kd.N_nil _ _ _ _ _ | exact Kd.V_nil _ _ _ _ _ | exact Kd.Q_nil _ _ _ _ _ | exact Kd.S_nil _ _ _ _ _, by repeat (first | (with_reducible first | exact HB.out | apply below_alloc | apply pw_below_drewN | apply below_drew1) | exact HB.out)⟩

end Go.Proofs.YtjemaonejkepcaaDoor.B
