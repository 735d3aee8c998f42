/- Texts of the laws GaugeGuards, GaugeLoses, GaugeWears, laid together by a program of this session; what is not reached is cut. In it: words that the kit's print.sh printed, contracts of Go functions printed over the kit's printer, our own laws. Not trusted: Lean checks them. -/
import Derived.Test.YtjemaonejkepcaaDoorZQc3
namespace Go.Proofs.YtjemaonejkepcaaDoor.G
open Go.Proofs.YtjemaonejkepcaaDoor.B
open Go.RowKit Go.Proofs.YtjemaonejkepcaaDoorW.PrintWords Go.Proofs.YtjemaonejkepcaaDoorW.PrintLast Go.Proofs.YtjemaonejkepcaaDoorW.PrintMore
attribute [local go_sem] max2_int min2_int max_two min_two max_three min_three max_four min_four   -- for this text's walks alone
set_option linter.unusedVariables false
set_option linter.unusedSimpArgs false
section
variable [q89 : Dat89]
def gauge_Tool_bool.l0 : Nat → List Bool → List (S56) → Int → Int → Option (List Bool × Int)
  | 0, _, _, _, _ => none
  | k + 1, x6, x11, x12, x13 => if x13 < x12 then (if 0 ≤ x13 then (if x13 < (x11.length : Int) then ((gauge_Worn_1.f x13 ((rd_T56 x11 x13).f0.f0) ((rd_T56 x11 x13).f0.f1) ((rd_T56 x11 x13).f1) ((rd_T56 x11 x13).f2)).bind fun bt163 => (if bt163.2 = 0 then (if x6.length < 140737488355328 then (gauge_Tool_bool.l0 k (x6 ++ [bt163.1]) x11 x12 (wrap64 (x13 + 1))) else (none)) else (some (([] : List Bool), bt163.2)))) else (none)) else (none)) else (some (x6, 0))
def gauge_Tool_bool.f (k : Nat) (l0 : List (S56)) : Option (List Bool × Int) := gauge_Tool_bool.l0 k ([] : List Bool) l0 (l0.length : Int) 0
theorem gauge_Tool_bool.mono_l : ∀ k, (∀ y0 y1 y2 y3, LeO (gauge_Tool_bool.l0 k y0 y1 y2 y3) (gauge_Tool_bool.l0 (k + 1) y0 y1 y2 y3))
  | 0 => fun _ _ _ _ r h => by simp [gauge_Tool_bool.l0] at h
  | k + 1 => by
    have ih0 := gauge_Tool_bool.mono_l k
    · intro y0 y1 y2 y3
      unfold gauge_Tool_bool.l0
      repeat' first
      | (with_reducible exact ih0 _ _ _ _)
      | (with_reducible exact LeO.refl _)
      | (with_reducible exact LeO.none _)
      | (with_reducible refine LeO.ite ?_ ?_)
      | (with_reducible refine LeO.bind ?_ (fun _ => ?_))
      | exact ih0 _ _ _ _
      | exact LeO.none _
      | refine LeO.ite ?_ ?_
      | refine LeO.bind ?_ (fun _ => ?_)
theorem gauge_Tool_bool.mono : ∀ a0 k, LeO (gauge_Tool_bool.f k a0) (gauge_Tool_bool.f (k + 1) a0) := by
  intro a0 k
  have ih0 := gauge_Tool_bool.mono_l k
  unfold gauge_Tool_bool.f
  repeat' first
      | (with_reducible exact ih0 _ _ _ _)
      | (with_reducible exact LeO.refl _)
      | (with_reducible exact LeO.none _)
      | (with_reducible refine LeO.ite ?_ ?_)
      | (with_reducible refine LeO.bind ?_ (fun _ => ?_))
      | exact ih0 _ _ _ _
      | exact LeO.none _
      | refine LeO.ite ?_ ?_
      | refine LeO.bind ?_ (fun _ => ?_)
set_option maxHeartbeats 8000000 in
set_option maxRecDepth 100000 in
theorem gauge_Tool_bool.calls [Adr89] (k : Nat) (A0 : Option Addr) (c0 : Nat) (l0 : List (S56)) (r1 : List Bool) (r2 : Int) (w : World) (hr0 : Kd.C k56 w A0 l0.length l0) (hc0 : l0.length ≤ c0) (h : gauge_Tool_bool.f k l0 = some (r1, r2)) (hS : CapAt89 w) :
    Calls Tryd.prog 88 #[.slice A0 l0.length c0, .func (.func 89) #[] #[.pointer (some ⟨Adr89.gl, 0, none⟩), .pointer (some ⟨Adr89.gs, 0, none⟩)]] w fun e w' => ∃ v0_ : Value, e = .returned (.tuple #[v0_, .int .i64 r2]) ∧ Kd.R Kd.bool 4 w' w.heap.size (fun _ => True) v0_ r1 ∧ Below w.heap.size w w' := by
  have HS := Aside0.mk hS
  clear hS
  have hu56 := Tryd.underlying56
  have HR0 := Aside0.mk hr0
  have HC0 := Aside0.mk hc0
  clear hr0 hc0
  have HB := Aside0.mk (Below.refl w.heap.size w)
  have H : (gauge_Tool_bool.l0 k ([] : List Bool) l0 (l0.length : Int) 0) = some (r1, r2) := h
  clear h
  have H' := Aside0.mk H
  clear H
  go_enter Tryd.func88, Tryd.ntmps88
  go_wp2
  go_loopg [6, 13] k (fun kq v6 v13 w' => ∃ (x6_1 : List Bool) (x13_1 : Int), v13 = .int .i64 x13_1 ∧ Aside0 (gauge_Tool_bool.l0 kq x6_1 l0 (l0.length : Int) x13_1 = some (r1, r2)) ∧ Aside0 (kq ≤ k) ∧ Aside0 (Kd.R Kd.bool 4 w' w.heap.size (fun _ => True) v6 x6_1) ∧ Aside0 (Below w.heap.size w w'))
  case atStart => exact ⟨(([] : List Bool)), (0), (by first | rfl | (simp; done) | (simp [*]; done)), H', ⟨Nat.le_refl _⟩, ⟨by first | exact Kd.R_nil _ _ _ _ _ | exact Kd.N_nil _ _ _ _ _ | exact Kd.V_nil _ _ _ _ _ | exact Kd.Q_nil _ _ _ _ _ | exact Kd.S_nil _ _ _ _ _⟩, ⟨by repeat (first | (with_reducible first | exact HB.out | apply below_alloc | apply pw_below_drewN | apply below_drew1) | exact HB.out)⟩⟩
  case round =>
    clear H'
    obtain ⟨x6_1, x13_1, rfl, HA, HK1, HO_6, HB⟩ := hrel
    cases gk with
    | zero => exact absurd HA.out (by simp [gauge_Tool_bool.l0])
    | succ k1 =>
      have H := HA.out
      clear HA
      simp only [gauge_Tool_bool.l0] at H
      by_cases c2 : x13_1 < (l0.length : Int)
      · rw [if_pos c2] at H
        have c2b0 : decide (x13_1 < (l0.length : Int)) = true := decide_eq_true c2
        clear c2
        by_cases c3 : 0 ≤ x13_1
        · rw [if_pos c3] at H
          have c3b0 : decide (0 ≤ x13_1) = true := decide_eq_true c3
          clear c3
          by_cases c4 : x13_1 < (l0.length : Int)
          · rw [if_pos c4] at H
            have c4b0 : decide (x13_1 < (l0.length : Int)) = true := decide_eq_true c4
            clear c4
            replace H := Option.bind_eq_some_iff.mp H
            obtain ⟨⟨t163, t164⟩, A50, H⟩ := H
            replace H : (if t164 = 0 then (if x6_1.length < 140737488355328 then (gauge_Tool_bool.l0 k1 (x6_1 ++ [t163]) l0 (l0.length : Int) (wrap64 (x13_1 + 1))) else (none)) else (some (([] : List Bool), t164))) = some (r1, r2) := H
            have A5 := Aside0.mk A50
            clear A50
            by_cases c6 : t164 = 0
            · rw [if_pos c6] at H
              have c6b0 : (t164 == 0) = true := beq_iff_eq.mpr c6
              have c6b1 : (t164 != 0) = false := bne_eq_false_iff_eq.mpr c6
              clear c6
              by_cases c7 : x6_1.length < 140737488355328
              · rw [if_pos c7] at H
                have LMc7 := Aside0.mk c7
                clear c7
                obtain ⟨y165, hy165⟩ : ∃ y_ : List Bool, y_ = (x6_1 ++ [t163]) := ⟨_, rfl⟩
                replace H : (gauge_Tool_bool.l0 k1 y165 l0 (l0.length : Int) (wrap64 (x13_1 + 1))) = some (r1, r2) := by first | (rw [hy165]; with_reducible exact H) | (have H2_ := (Option.bind_some _ _).symm.trans H; rw [hy165]; with_reducible exact H2_) | (have H2_ := (Option.bind_some _ _).symm.trans H; with_reducible exact H2_) | with_reducible exact H | (rw [hy165]; exact H) | exact H
                have Ny165 := Aside0.mk hy165
                clear hy165
                have H' := Aside0.mk H
                clear H
                have p161 : 0 ≤ (x13_1 : Int) := of_decide_eq_true (by first | (with_reducible assumption) | assumption)
                have q161 : x13_1 < (l0.length : Int) := of_decide_eq_true (by first | (with_reducible assumption) | assumption)
                obtain ⟨ad161, e161, hx161_0, hx161_1, hx161_2, hx161_3⟩ := at_T56 HR0.out x13_1 p161 q161
                cases e161
                replace hx161_0 := (HB.out.cell (World.block_lt_of_cell? w _ hx161_0)).trans hx161_0
                replace hx161_1 := (HB.out.cell (World.block_lt_of_cell? w _ hx161_1)).trans hx161_1
                replace hx161_2 := (HB.out.cell (World.block_lt_of_cell? w _ hx161_2)).trans hx161_2
                replace hx161_3 := (HB.out.cell (World.block_lt_of_cell? w _ hx161_3)).trans hx161_3
                replace p161 := eq_true p161
                replace q161 := eq_true q161
                go_wp2_with (first | ((with_reducible refine gate_dst (N := 8) rfl ?_); refine box_event ?hg (N := 8) ?hd (cs := #[.int .i64 0, .int .i64 0, .bool false, .int .i64 0]) (t := 56) ?hr ?_; (case hd => rfl); (case hg => rfl); (case hr => first | (go_simp; done) | (go_simp; rfl)); intro gb162 hg w8 hbox hb; have n0_ := Aside0.mk (Kd.R_below (by (with_reducible repeat (first | apply Kd.R_alloc | apply Kd.R_drewN | apply Kd.R_drew)); exact HO_6.out) hb); have n1_ := Aside0.mk (below_step (by repeat (first | (with_reducible first | exact HB.out | apply below_alloc | apply pw_below_drewN | apply below_drew1) | exact HB.out)) hb); have n2_ := Aside0.mk (hbox); have n3_ := Aside0.mk ((by rw [hg]; exact (below_size (by repeat (first | (with_reducible first | exact HB.out | apply below_alloc | apply pw_below_drewN | apply below_drew1) | exact HB.out))) : w.heap.size ≤ gb162)); have n4_ := Aside0.mk ((by rw [hg]; exact (below_size (by repeat (first | (with_reducible first | exact HB.out | apply below_alloc | apply pw_below_drewN | apply below_drew1) | exact HB.out))) : w.heap.size ≤ gb162)); clear HO_6; clear HB; have HO_6 := n0_; have HB := n1_; have BK162 := n2_; have GW162 := n3_; have GE162 := n4_; clear n0_ n1_ n2_ n3_ n4_; clear hb hbox hg; have hcz9_0 : w8.cell? ⟨gb162, 0, none⟩ = some (.int .i64 0) := (blk_cell BK162.out 0).trans rfl; have hcz9_1 : w8.cell? ⟨gb162, 1, none⟩ = some (.int .i64 0) := (blk_cell BK162.out 1).trans rfl; have hcz9_2 : w8.cell? ⟨gb162, 2, none⟩ = some (.bool false) := (blk_cell BK162.out 2).trans rfl; have hcz9_3 : w8.cell? ⟨gb162, 3, none⟩ = some (.int .i64 0) := (blk_cell BK162.out 3).trans rfl; have hfz9_0 := blk_frozen BK162.out 0; have hfz9_1 := blk_frozen BK162.out 1; have hfz9_2 := blk_frozen BK162.out 2; have hfz9_3 := blk_frozen BK162.out 3) | (go_at_call 89; (with_reducible refine (gauge_Worn_1.calls x13_1 ((rd_T56 l0 x13_1).f0.f0) ((rd_T56 l0 x13_1).f0.f1) ((rd_T56 l0 x13_1).f1) ((rd_T56 l0 x13_1).f2) t163 t164 _ A5.out (by exact cap89_below HS.out (by repeat (first | (with_reducible first | exact HB.out | apply below_alloc | apply pw_below_drewN | apply below_drew1 | refine below_set ?_ GE162.out) | exact HB.out)))).mono ?_); rintro e w10 ⟨rfl, hb⟩; skip; have n0_ := Aside0.mk (Kd.R_below (by (with_reducible repeat (first | apply Kd.R_alloc | apply Kd.R_drewN | apply Kd.R_drew)); exact (Kd.R_mono (Kd.R_far (p := ⟨gb162, 3, none⟩) (Kd.R_far (p := ⟨gb162, 2, none⟩) (Kd.R_far (p := ⟨gb162, 1, none⟩) (Kd.R_far (p := ⟨gb162, 0, none⟩) (Kd.R_types HO_6.out BK162.out (by decide)) (fun _ hk => hk.2) (.int .i64 ((rd_T56 l0 x13_1).f0.f0))) (fun _ hk => hk.2) (.int .i64 ((rd_T56 l0 x13_1).f0.f1))) (fun _ hk => hk.2) (.bool ((rd_T56 l0 x13_1).f1))) (fun _ hk => hk.2) (.int .i64 ((rd_T56 l0 x13_1).f2))) (fun _ h_ => h_.1))) hb); have n1_ := Aside0.mk (blk_below (g := gb162) (o := .cells #[.int .i64 ((rd_T56 l0 x13_1).f0.f0), .int .i64 ((rd_T56 l0 x13_1).f0.f1), .bool ((rd_T56 l0 x13_1).f1), .int .i64 ((rd_T56 l0 x13_1).f2)] 56 (0, 0)) (by (with_reducible repeat (first | refine blk_drewN ?_ _ | refine blk_drew ?_ | refine blk_alloc ?_ _)); refine blk_put (cs := #[.int .i64 ((rd_T56 l0 x13_1).f0.f0), .int .i64 ((rd_T56 l0 x13_1).f0.f1), .bool ((rd_T56 l0 x13_1).f1), .int .i64 0]) ?_ 3 _ rfl; (with_reducible repeat (first | refine blk_drewN ?_ _ | refine blk_drew ?_ | refine blk_alloc ?_ _)); refine blk_put (cs := #[.int .i64 ((rd_T56 l0 x13_1).f0.f0), .int .i64 ((rd_T56 l0 x13_1).f0.f1), .bool false, .int .i64 0]) ?_ 2 _ rfl; (with_reducible repeat (first | refine blk_drewN ?_ _ | refine blk_drew ?_ | refine blk_alloc ?_ _)); refine blk_put (cs := #[.int .i64 ((rd_T56 l0 x13_1).f0.f0), .int .i64 0, .bool false, .int .i64 0]) ?_ 1 _ rfl; (with_reducible repeat (first | refine blk_drewN ?_ _ | refine blk_drew ?_ | refine blk_alloc ?_ _)); refine blk_put (cs := #[.int .i64 0, .int .i64 0, .bool false, .int .i64 0]) ?_ 0 _ rfl; (with_reducible repeat (first | refine blk_drewN ?_ _ | refine blk_drew ?_ | refine blk_alloc ?_ _)); exact BK162.out) hb); have n2_ := Aside0.mk (below_step (by repeat (first | (with_reducible first | exact HB.out | apply below_alloc | apply pw_below_drewN | apply below_drew1 | refine below_set ?_ GE162.out) | exact HB.out)) hb); clear HO_6; clear BK162; clear HB; have HO_6 := n0_; have BK162 := n1_; have HB := n2_; clear n0_ n1_ n2_; (try clear hb); (try clear hb2); (try clear hk); (try clear hi)) | ((with_reducible refine gate_builtin (b := .append) (xs := #[.tmp 28, .tmp 30]) rfl ?_); at_builtin; refine Kd.R_append Kd.bool (w0 := w) w.heap.size rfl (.tmp 28) (.tmp 30) 51 4 (.bool false) 1 rfl Tryd.underlying51 info4 rfl (by decide) (by omega) u6 x6_1 t163 [.bool t163] (fun _ => True) (fun _ => False) rfl rfl ?aP (fun _ hk => hk.elim) ?aF ?aO ?aB ?aS ?aL ?_; (case aP => exact rfl); (case aB => exact (by repeat (first | (with_reducible first | exact HB.out | apply below_alloc | apply pw_below_drewN | apply below_drew1 | refine below_set ?_ GE162.out) | exact HB.out))); (case aF => exact (fun _ _ => trivial)); (case aO => exact (by (with_reducible repeat (first | apply Kd.R_alloc | apply Kd.R_drewN | apply Kd.R_drew)); exact HO_6.out)); (case aS => exact (below_size (by repeat (first | (with_reducible first | exact HB.out | apply below_alloc | apply pw_below_drewN | apply below_drew1 | refine below_set ?_ GE162.out) | exact HB.out)))); (case aL => have := LMc7.out; omega); intro v166 w11 ho hb hg hat; rw [← Ny165.out] at ho; have n0_ := Aside0.mk (blk_grown (g := gb162) (o := .cells #[.int .i64 ((rd_T56 l0 x13_1).f0.f0), .int .i64 ((rd_T56 l0 x13_1).f0.f1), .bool ((rd_T56 l0 x13_1).f1), .int .i64 ((rd_T56 l0 x13_1).f2)] 56 (0, 0)) (by (with_reducible repeat (first | refine blk_drewN ?_ _ | refine blk_drew ?_ | refine blk_alloc ?_ _)); exact BK162.out) hg (Kd.R_ne HO_6.out BK162.out (by decide))); have n1_ := Aside0.mk (hb); have n2_ := Aside0.mk (ho); clear BK162; clear HB; clear HO_6; have BK162 := n0_; have HB := n1_; have HO167 := n2_; clear n0_ n1_ n2_; clear ho hb hg hat))
                go_roundg k1
                case measure => have := HK1.out; omega
                case rel => exact ⟨(y165), (wrap64 (x13_1 + 1)), (by first | rfl | (simp; done) | (simp [*]; done)), H', ⟨by have := HK1.out; omega⟩, ⟨by (with_reducible repeat (first | apply Kd.R_alloc | apply Kd.R_drewN | apply Kd.R_drew)); exact HO167.out⟩, ⟨by repeat (first | (with_reducible first | exact HB.out | apply below_alloc | apply pw_below_drewN | apply below_drew1 | refine below_set ?_ GE162.out) | exact HB.out)⟩⟩
              · rw [if_neg c7] at H
                exact absurd H (by simp)
            · rw [if_neg c6] at H
              have c6b0 : (t164 == 0) = false := beq_eq_false_iff_ne.mpr c6
              have c6b1 : (t164 != 0) = true := bne_iff_ne.mpr c6
              simp only [Option.some.injEq, Prod.mk.injEq] at H
              obtain ⟨rfl, rfl⟩ := H
              have p161 : 0 ≤ (x13_1 : Int) := of_decide_eq_true (by first | (with_reducible assumption) | assumption)
              have q161 : x13_1 < (l0.length : Int) := of_decide_eq_true (by first | (with_reducible assumption) | assumption)
              obtain ⟨ad161, e161, hx161_0, hx161_1, hx161_2, hx161_3⟩ := at_T56 HR0.out x13_1 p161 q161
              cases e161
              replace hx161_0 := (HB.out.cell (World.block_lt_of_cell? w _ hx161_0)).trans hx161_0
              replace hx161_1 := (HB.out.cell (World.block_lt_of_cell? w _ hx161_1)).trans hx161_1
              replace hx161_2 := (HB.out.cell (World.block_lt_of_cell? w _ hx161_2)).trans hx161_2
              replace hx161_3 := (HB.out.cell (World.block_lt_of_cell? w _ hx161_3)).trans hx161_3
              replace p161 := eq_true p161
              replace q161 := eq_true q161
              go_wp2_with (first | ((with_reducible refine gate_dst (N := 8) rfl ?_); refine box_event ?hg (N := 8) ?hd (cs := #[.int .i64 0, .int .i64 0, .bool false, .int .i64 0]) (t := 56) ?hr ?_; (case hd => rfl); (case hg => rfl); (case hr => first | (go_simp; done) | (go_simp; rfl)); intro gb162 hg w12 hbox hb; have n0_ := Aside0.mk (Kd.R_below (by (with_reducible repeat (first | apply Kd.R_alloc | apply Kd.R_drewN | apply Kd.R_drew)); exact HO_6.out) hb); have n1_ := Aside0.mk (below_step (by repeat (first | (with_reducible first | exact HB.out | apply below_alloc | apply pw_below_drewN | apply below_drew1) | exact HB.out)) hb); have n2_ := Aside0.mk (hbox); have n3_ := Aside0.mk ((by rw [hg]; exact (below_size (by repeat (first | (with_reducible first | exact HB.out | apply below_alloc | apply pw_below_drewN | apply below_drew1) | exact HB.out))) : w.heap.size ≤ gb162)); have n4_ := Aside0.mk ((by rw [hg]; exact (below_size (by repeat (first | (with_reducible first | exact HB.out | apply below_alloc | apply pw_below_drewN | apply below_drew1) | exact HB.out))) : w.heap.size ≤ gb162)); clear HO_6; clear HB; have HO_6 := n0_; have HB := n1_; have BK162 := n2_; have GW162 := n3_; have GE162 := n4_; clear n0_ n1_ n2_ n3_ n4_; clear hb hbox hg; have hcz13_0 : w12.cell? ⟨gb162, 0, none⟩ = some (.int .i64 0) := (blk_cell BK162.out 0).trans rfl; have hcz13_1 : w12.cell? ⟨gb162, 1, none⟩ = some (.int .i64 0) := (blk_cell BK162.out 1).trans rfl; have hcz13_2 : w12.cell? ⟨gb162, 2, none⟩ = some (.bool false) := (blk_cell BK162.out 2).trans rfl; have hcz13_3 : w12.cell? ⟨gb162, 3, none⟩ = some (.int .i64 0) := (blk_cell BK162.out 3).trans rfl; have hfz13_0 := blk_frozen BK162.out 0; have hfz13_1 := blk_frozen BK162.out 1; have hfz13_2 := blk_frozen BK162.out 2; have hfz13_3 := blk_frozen BK162.out 3) | (go_at_call 89; (with_reducible refine (gauge_Worn_1.calls x13_1 ((rd_T56 l0 x13_1).f0.f0) ((rd_T56 l0 x13_1).f0.f1) ((rd_T56 l0 x13_1).f1) ((rd_T56 l0 x13_1).f2) t163 t164 _ A5.out (by exact cap89_below HS.out (by repeat (first | (with_reducible first | exact HB.out | apply below_alloc | apply pw_below_drewN | apply below_drew1 | refine below_set ?_ GE162.out) | exact HB.out)))).mono ?_); rintro e w14 ⟨rfl, hb⟩; skip; have n0_ := Aside0.mk (Kd.R_below (by (with_reducible repeat (first | apply Kd.R_alloc | apply Kd.R_drewN | apply Kd.R_drew)); exact (Kd.R_mono (Kd.R_far (p := ⟨gb162, 3, none⟩) (Kd.R_far (p := ⟨gb162, 2, none⟩) (Kd.R_far (p := ⟨gb162, 1, none⟩) (Kd.R_far (p := ⟨gb162, 0, none⟩) (Kd.R_types HO_6.out BK162.out (by decide)) (fun _ hk => hk.2) (.int .i64 ((rd_T56 l0 x13_1).f0.f0))) (fun _ hk => hk.2) (.int .i64 ((rd_T56 l0 x13_1).f0.f1))) (fun _ hk => hk.2) (.bool ((rd_T56 l0 x13_1).f1))) (fun _ hk => hk.2) (.int .i64 ((rd_T56 l0 x13_1).f2))) (fun _ h_ => h_.1))) hb); have n1_ := Aside0.mk (blk_below (g := gb162) (o := .cells #[.int .i64 ((rd_T56 l0 x13_1).f0.f0), .int .i64 ((rd_T56 l0 x13_1).f0.f1), .bool ((rd_T56 l0 x13_1).f1), .int .i64 ((rd_T56 l0 x13_1).f2)] 56 (0, 0)) (by (with_reducible repeat (first | refine blk_drewN ?_ _ | refine blk_drew ?_ | refine blk_alloc ?_ _)); refine blk_put (cs := #[.int .i64 ((rd_T56 l0 x13_1).f0.f0), .int .i64 ((rd_T56 l0 x13_1).f0.f1), .bool ((rd_T56 l0 x13_1).f1), .int .i64 0]) ?_ 3 _ rfl; (with_reducible repeat (first | refine blk_drewN ?_ _ | refine blk_drew ?_ | refine blk_alloc ?_ _)); refine blk_put (cs := #[.int .i64 ((rd_T56 l0 x13_1).f0.f0), .int .i64 ((rd_T56 l0 x13_1).f0.f1), .bool false, .int .i64 0]) ?_ 2 _ rfl; (with_reducible repeat (first | refine blk_drewN ?_ _ | refine blk_drew ?_ | refine blk_alloc ?_ _)); refine blk_put (cs := #[.int .i64 ((rd_T56 l0 x13_1).f0.f0), .int .i64 0, .bool false, .int .i64 0]) ?_ 1 _ rfl; (with_reducible repeat (first | refine blk_drewN ?_ _ | refine blk_drew ?_ | refine blk_alloc ?_ _)); refine blk_put (cs := #[.int .i64 0, .int .i64 0, .bool false, .int .i64 0]) ?_ 0 _ rfl; (with_reducible repeat (first | refine blk_drewN ?_ _ | refine blk_drew ?_ | refine blk_alloc ?_ _)); exact BK162.out) hb); have n2_ := Aside0.mk (below_step (by repeat (first | (with_reducible first | exact HB.out | apply below_alloc | apply pw_below_drewN | apply below_drew1 | refine below_set ?_ GE162.out) | exact HB.out)) hb); clear HO_6; clear BK162; clear HB; have HO_6 := n0_; have BK162 := n1_; have HB := n2_; clear n0_ n1_ n2_; (try clear hb); (try clear hb2); (try clear hk); (try clear hi)))
              go_ret2
              exact ⟨_, by first | rfl | (simp [errW_none, errW_some] <;> rfl) | (simp [*, errW_none, errW_some] <;> rfl), by first | exact Kd.R_nil _ _ _ _ _ | exact Kd.N_nil _ _ _ _ _ | exact Kd.V_nil _ _ _ _ _ | exact Kd.Q_nil _ _ _ _ _ | exact Kd.S_nil _ _ _ _ _, by repeat (first | (with_reducible first | exact HB.out | apply below_alloc | apply pw_below_drewN | apply below_drew1 | refine below_set ?_ GE162.out) | exact HB.out)⟩
          · rw [if_neg c4] at H
            exact absurd H (by simp)
        · rw [if_neg c3] at H
          exact absurd H (by simp)
      · rw [if_neg c2] at H
        have c2b0 : decide (x13_1 < (l0.length : Int)) = false := decide_eq_false c2
        clear c2
        simp only [Option.some.injEq, Prod.mk.injEq] at H
        obtain ⟨rfl, rfl⟩ := H
        go_wp2
        go_ret2
        exact ⟨_, by first | rfl | (simp [errW_none, errW_some] <;> rfl) | (simp [*, errW_none, errW_some] <;> rfl), by (with_reducible repeat (first | apply Kd.R_alloc | apply Kd.R_drewN | apply Kd.R_drew)); exact HO_6.out, by repeat (first | (with_reducible first | exact HB.out | apply below_alloc | apply pw_below_drewN | apply below_drew1) | exact HB.out)⟩
end
end Go.Proofs.YtjemaonejkepcaaDoor.G
namespace Go.Proofs.YtjemaonejkepcaaDoor.G
open Go.Proofs.YtjemaonejkepcaaDoor.B
open Go.RowKit Go.Proofs.YtjemaonejkepcaaDoorW.PrintWords Go.Proofs.YtjemaonejkepcaaDoorW.PrintLast Go.Proofs.YtjemaonejkepcaaDoorW.PrintMore
attribute [local go_sem] max2_int min2_int max_two min_two max_three min_three max_four min_four   -- for this text's walks alone
set_option linter.unusedVariables false
set_option linter.unusedSimpArgs false
theorem gauge_Worn.tool (tg : List (S27)) (sz : List Int) (gl gs : Nat) (A : Option Addr) (c : Nat) (B : Option Addr) (d : Nat) (k : Nat) (A1 : Option Addr) (c1 : Nat) (l1 : List (S56)) (r1 : List Bool) (r2 : Int) (w : World) (hr1 : Kd.C k56 w A1 l1.length l1) (hc1 : l1.length ≤ c1) (h : @gauge_Tool_bool.f (Dat89.mk tg sz) k l1 = some (r1, r2)) (hl : w.heap[gl]? = some (.cells #[.slice A tg.length c] 42 (0, 0))) (hs : w.heap[gs]? = some (.cells #[.slice B sz.length d] 58 (0, 0))) (hC : Kd.C k27 w A tg.length tg) (hD : Kd.C (Kd.int .i64) w B sz.length sz) :
    Calls Tryd.prog 88 #[.slice A1 l1.length c1, .func (.func 89) #[] #[.pointer (some ⟨gl, 0, none⟩), .pointer (some ⟨gs, 0, none⟩)]] w fun e w' => ∃ v0_ : Value, e = .returned (.tuple #[v0_, .int .i64 r2]) ∧ Kd.R Kd.bool 4 w' w.heap.size (fun _ => True) v0_ r1 ∧ Below w.heap.size w w' :=
  @gauge_Tool_bool.calls (Dat89.mk tg sz) (Adr89.mk gl gs A c B d) k A1 c1 l1 r1 r2 w hr1 hc1 h ⟨hl, hs, hC, hD⟩
def gauge_Worn.l0 : Nat → List Int → List Bool → Int → Int → Option (List Int × Int)
  | 0, _, _, _, _ => none
  | k + 1, out, l, n, i => if i < n then (if 0 ≤ i then (if i < (l.length : Int) then (if (rdOf false l i) = true then (if out.length < 17592186044416 then gauge_Worn.l0 k (out ++ [i]) l n (wrap64 (i + 1)) else none) else gauge_Worn.l0 k out l n (wrap64 (i + 1))) else none) else none) else some (out, 0)
def gauge_Worn.f (k : Nat) (l0 : List (S27)) (l1 : List (S56)) : Option (List Int × Int) := (gauge_virtual.f k l0).bind fun b => if b.2 = 0 then (if (l1.length : Int) = (l0.length : Int) then ((@gauge_Tool_bool.f (Dat89.mk l0 b.1) k l1).bind fun c => if c.2 = 0 then gauge_Worn.l0 k ([] : List Int) c.1 (c.1.length : Int) 0 else some (([] : List Int), c.2)) else some (([] : List Int), 8)) else some (([] : List Int), b.2)
theorem gauge_Worn.mono_l : ∀ k, (∀ y0 y1 y2 y3, LeO (gauge_Worn.l0 k y0 y1 y2 y3) (gauge_Worn.l0 (k + 1) y0 y1 y2 y3))
  | 0 => fun _ _ _ _ r h => by simp [gauge_Worn.l0] at h
  | k + 1 => by
      have ih0 := gauge_Worn.mono_l k
      intro y0 y1 y2 y3
      unfold gauge_Worn.l0
      repeat' first
        | (with_reducible exact ih0 _ _ _)
        | (with_reducible exact ih0 _ _ _ _)
        | (with_reducible exact LeO.refl _)
        | (with_reducible exact LeO.none _)
        | (with_reducible refine LeO.ite ?_ ?_)
        | (with_reducible refine LeO.bind ?_ (fun _ => ?_))
theorem gauge_Worn.mono : ∀ a0 a1 k, LeO (gauge_Worn.f k a0 a1) (gauge_Worn.f (k + 1) a0 a1) := by
  intro a0 a1 k
  have ih0 := gauge_Worn.mono_l k
  unfold gauge_Worn.f
  exact LeO.bind (gauge_virtual.mono _ _) (fun b => LeO.ite (LeO.ite (LeO.bind (@gauge_Tool_bool.mono (Dat89.mk a0 b.1) _ _) (fun c => LeO.ite (ih0 _ _ _ _) (LeO.refl _))) (LeO.refl _)) (LeO.refl _))
set_option maxHeartbeats 8000000 in
set_option maxRecDepth 100000 in
theorem gauge_Worn.calls (k : Nat) (A0 : Option Addr) (c0 : Nat) (l0 : List (S27)) (A1 : Option Addr) (c1 : Nat) (l1 : List (S56)) (r1 : List Int) (r2 : Int) (w : World) (hr0 : Kd.C k27 w A0 l0.length l0) (hc0 : l0.length ≤ c0) (hr1 : Kd.C k56 w A1 l1.length l1) (hc1 : l1.length ≤ c1) (h : gauge_Worn.f k l0 l1 = some (r1, r2)) (hS : SignsAt w) :
    Calls Tryd.prog 36 #[.slice A0 l0.length c0, .slice A1 l1.length c1] w fun e w' => ∃ v0_ : Value, e = .returned (.tuple #[v0_, .int .i64 r2]) ∧ Kd.R (Kd.int .i64) 3 w' w.heap.size (fun _ => True) v0_ r1 ∧ Below w.heap.size w w' := by
  have HR0 := Aside0.mk hr0
  have HC0 := Aside0.mk hc0
  have HR1 := Aside0.mk hr1
  have HC1 := Aside0.mk hc1
  have HS := Aside0.mk hS
  have HB := Aside0.mk (Below.refl w.heap.size w)
  clear hr0 hc0 hr1 hc1 hS
  skip
  obtain ⟨⟨sz, t⟩, A30, H⟩ := Option.bind_eq_some_iff.mp h
  replace H : (if t = 0 then (if (l1.length : Int) = (l0.length : Int) then ((@gauge_Tool_bool.f (Dat89.mk l0 sz) k l1).bind fun c => if c.2 = 0 then gauge_Worn.l0 k ([] : List Int) c.1 (c.1.length : Int) 0 else some (([] : List Int), c.2)) else some (([] : List Int), 8)) else some (([] : List Int), t)) = some (r1, r2) := H
  clear h
  have A3 := Aside0.mk A30
  clear A30
  by_cases c4 : t = 0
  · rw [if_pos c4] at H
    have c4b1 : (t != 0) = false := bne_eq_false_iff_eq.mpr c4
    clear c4
    by_cases c5 : (l1.length : Int) = (l0.length : Int)
    · rw [if_pos c5] at H
      have c5b1 : ((l1.length : Int) != (l0.length : Int)) = false := bne_eq_false_iff_eq.mpr c5
      clear c5
      obtain ⟨⟨q1, q2⟩, A60, H⟩ := Option.bind_eq_some_iff.mp H
      replace H : (if q2 = 0 then gauge_Worn.l0 k ([] : List Int) q1 (q1.length : Int) 0 else some (([] : List Int), q2)) = some (r1, r2) := H
      have A6 := Aside0.mk A60
      clear A60
      by_cases c7 : q2 = 0
      · rw [if_pos c7] at H
        have c7b1 : (q2 != 0) = false := bne_eq_false_iff_eq.mpr c7
        clear c7
        have H' := Aside0.mk H
        clear H
        go_enter Tryd.func36, Tryd.ntmps36
        go_upto_region 2 with (first
          | ((with_reducible refine gate_dst (N := 2) rfl ?_); refine box_event ?hg (N := 2) ?hd (cs := #[.slice A0 l0.length c0]) (t := 42) ?hr ?_; (case hd => rfl); (case hg => rfl); (case hr => first | (go_simp; done) | (go_simp; rfl)); intro g2 hg wg2 hbox hb; have m0_ := Aside0.mk (by rw [hg]; exact below_size (by repeat (first | (with_reducible first | exact HB.out | apply below_alloc | apply pw_below_drewN | apply below_drew1) | exact HB.out)) : w.heap.size ≤ g2); have m1_ := Aside0.mk (below_step (by repeat (first | (with_reducible first | exact HB.out | apply below_alloc | apply pw_below_drewN | apply below_drew1) | exact HB.out)) hb); clear HB ; have HB := m1_; have GEg2 := m0_; have B2 := Aside0.mk hbox; clear hg hbox hb; have f2 : wg2.cell? ⟨g2, 0, none⟩ = some (.slice A0 l0.length c0) := (blk_cell B2.out 0).trans rfl)
          | ((with_reducible refine gate_callee (f := 80) rfl ?_); refine goesL_ (some 14) rfl rfl Tryd.func80 (by kernel_rfl) rfl #[.slice A0 l0.length c0] rfl (by (try simp only [List.map_toArray, List.map_cons, List.map_nil]); first | done | rfl | (simp only [List.length_drop, List.length_take]; rfl)) ?_; (with_reducible refine (gauge_virtual.calls k _ _ l0 sz t _ ?side1 ?side2 A3.out (by exact sig_below HS.out (by repeat (first | (with_reducible first | exact HB.out | apply below_alloc | apply pw_below_drewN | apply below_drew1) | exact HB.out)))).mono ?_); (case side1 => repeat (first | exact (Kd.C_below HR0.out HB.out) | (with_reducible refine Kd.C_alloc ?_ _) | (with_reducible refine Kd.C_drewN ?_ _) | (with_reducible refine Kd.C_drew ?_))); (case side2 => exact HC0.out); rintro e w6 ⟨v114, rfl, ho0, hb⟩; refine ⟨_, rfl, ?_⟩; have o0_ := Aside0.mk (blk_below B2.out hb); have n0_ := Aside0.mk (Kd.R_lower ho0 (below_size (by repeat (first | (with_reducible first | exact HB.out | apply below_alloc | apply pw_below_drewN | apply below_drew1) | exact HB.out)))); have n1_ := Aside0.mk (below_step (by repeat (first | (with_reducible first | exact HB.out | apply below_alloc | apply pw_below_drewN | apply below_drew1) | exact HB.out)) hb); clear HB B2; have HO := n0_; have HB := n1_; have B2 := o0_; clear n0_ n1_ hb ho0; obtain ⟨Ao, co, eo⟩ := Kd.R_slice HO.out; subst eo)
          | ((with_reducible refine gate_dst (N := 6) rfl ?_); refine box_event ?hg (N := 6) ?hd (cs := #[.slice none 0 0]) (t := 58) ?hr ?_; (case hd => rfl); (case hg => rfl); (case hr => first | (go_simp; done) | (go_simp; rfl)); intro g6 hg wg6 hbox hb; have m0_ := Aside0.mk (by rw [hg]; exact below_size (by repeat (first | (with_reducible first | exact HB.out | apply below_alloc | apply pw_below_drewN | apply below_drew1) | exact HB.out)) : w.heap.size ≤ g6); have m1_ := Aside0.mk (below_step (by repeat (first | (with_reducible first | exact HB.out | apply below_alloc | apply pw_below_drewN | apply below_drew1) | exact HB.out)) hb); have o0_ := Aside0.mk (blk_below B2.out hb); have q0_ := Aside0.mk (by rw [hg]; exact Nat.ne_of_gt (blk_lt B2.out) : g6 ≠ _); have h_ := Aside0.mk (Kd.R_below (Kd.R_elderB (by (with_reducible repeat (first | apply Kd.R_alloc | apply Kd.R_drewN | apply Kd.R_drew)); exact HO.out) g6 (Nat.le_of_eq hg.symm)) hb); clear HB B2 HO; have HB := m1_; have GEg6 := m0_; have B2 := o0_; have NE62 := q0_; have HO := h_; have B6 := Aside0.mk hbox; clear hg hbox hb; have f0 : wg6.cell? ⟨g6, 0, none⟩ = some (.slice none 0 0) := (blk_cell B6.out 0).trans rfl; have f1 := blk_frozen B6.out 0))
        have HB7 := below_set HB.out (j := 0) (v := (.slice Ao sz.length co)) GEg6.out
        have B27 := blk_far B2.out (p := ⟨g6, 0, none⟩) NE62.out.symm (.slice Ao sz.length co)
        have B67 := blk_put B6.out 0 (.slice Ao sz.length co) rfl
        have HO7 := Kd.R_mono (Kd.R_far (p := ⟨g6, 0, none⟩) HO.out (fun _ hk => hk.2) (.slice Ao sz.length co)) (ok' := fun _ => True) (fun _ _ => trivial)
        generalize wg6.setCell ⟨g6, 0, none⟩ (.slice Ao sz.length co) = w7 at HB7 B27 B67 HO7 ⊢
        clear HB B2 B6 HO f0 f1 NE62
        have HB := Aside0.mk HB7
        have B2 := Aside0.mk B27
        have B6 := Aside0.mk B67
        have HO := Aside0.mk HO7
        have m2 : w7.cell? ⟨g2, 0, none⟩ = some (.slice A0 l0.length c0) := (blk_cell B2.out 0).trans rfl
        clear HB7 B27 B67 HO7
        go_wp2_with (first | (go_at_call 88; (with_reducible refine (gauge_Worn.tool l0 sz g2 g6 A0 c0 Ao co k _ _ l1 q1 q2 _ ?side1 ?side2 A6.out ?side3 ?side4 ?side5 ?side6).mono ?_); (case side1 => repeat (first | exact (Kd.C_below HR1.out HB.out) | (with_reducible refine Kd.C_alloc ?_ _) | (with_reducible refine Kd.C_drewN ?_ _) | (with_reducible refine Kd.C_drew ?_))); (case side2 => exact HC1.out); (case side3 => exact B2.out); (case side4 => exact B6.out); (case side5 => exact (Kd.C_below HR0.out HB.out)); (case side6 => exact (Kd.R_reads' HO.out).2.2); rintro e w8 ⟨v114, rfl, ho0, hb⟩; have n0_ := Aside0.mk (Kd.R_lower ho0 (below_size (by repeat (first | (with_reducible first | exact HB.out | apply below_alloc | apply pw_below_drewN | apply below_drew1) | exact HB.out)))); have n1_ := Aside0.mk (below_step (by repeat (first | (with_reducible first | exact HB.out | apply below_alloc | apply pw_below_drewN | apply below_drew1) | exact HB.out)) hb); clear HB HO B2 B6 m2; have HO1 := n0_; have HB := n1_; clear n0_ n1_ hb ho0; obtain ⟨Ar, cr, er⟩ := Kd.R_slice HO1.out; subst er))
        have HB8 := Aside0.mk HB.out
        have HC8 := Aside0.mk (Kd.R_reads' HO1.out).2.2
        go_loopg [9, 36] k (fun kq v9 v36 w' => ∃ (xs : List Int) (i : Int), v36 = .int .i64 i ∧ Aside0 (gauge_Worn.l0 kq xs q1 (q1.length : Int) i = some (r1, r2)) ∧ Aside0 (kq ≤ k) ∧ Aside0 (Kd.R (Kd.int .i64) 3 w' w8.heap.size (fun _ => True) v9 xs) ∧ Aside0 (Below w8.heap.size w8 w'))
        case atStart => exact ⟨[], (0), (by first | rfl | (simp; done) | (simp [*]; done)), H', ⟨Nat.le_refl _⟩, ⟨Kd.R_nil _ _ _ _ _⟩, ⟨by repeat (first | exact Below.refl _ _ | apply below_alloc | apply pw_below_drewN | apply below_drew1)⟩⟩
        case round =>
          clear H' HO1 HB
          obtain ⟨xs, i, rfl, HA, HK1, HO9, HB⟩ := hrel
          cases gk with
          | zero => exact absurd HA.out (by simp [gauge_Worn.l0])
          | succ k1 =>
            have H := HA.out
            clear HA
            simp only [gauge_Worn.l0] at H
            by_cases c8 : i < (q1.length : Int)
            · rw [if_pos c8] at H
              by_cases c9 : 0 ≤ i
              · rw [if_pos c9, if_pos c8] at H
                obtain ⟨ad, e, hx0⟩ := Kd.at_bool HC8.out i c9 c8
                cases e
                replace hx0 := (HB.out.cell (World.block_lt_of_cell? w8 _ hx0)).trans hx0
                have c8b := decide_eq_true c8
                have p1 := eq_true c9
                have p2 := eq_true c8
                clear c8 c9
                cases hb : rdOf false q1 i with
                | true =>
                  rw [hb] at hx0
                  rw [hb, if_pos rfl] at H
                  clear hb
                  by_cases cl : xs.length < 17592186044416
                  · rw [if_pos cl] at H
                    have H' := Aside0.mk H
                    clear H
                    go_wp2_with (first | ((with_reducible refine gate_builtin (b := .append) (xs := #[.tmp 42, .tmp 44]) rfl ?_); at_builtin; refine Kd.R_append (Kd.int .i64) (w0 := w8) w8.heap.size rfl (.tmp 42) (.tmp 44) 58 3 (.int .i64 0) 8 rfl Tryd.underlying58 info3 rfl (by decide) (by omega) u9 xs i [.int .i64 i] (fun _ => True) (fun _ => False) rfl rfl ?aP (fun _ hk => hk.elim) ?aF ?aO ?aB ?aS ?aL ?_; (case aP => exact rfl); (case aB => exact (by repeat (first | (with_reducible first | exact HB.out | apply below_alloc | apply pw_below_drewN | apply below_drew1) | exact HB.out))); (case aF => exact (fun _ _ => trivial)); (case aO => exact (by (with_reducible repeat (first | apply Kd.R_alloc | apply Kd.R_drewN | apply Kd.R_drew)); exact HO9.out)); (case aS => exact (below_size (by repeat (first | (with_reducible first | exact HB.out | apply below_alloc | apply pw_below_drewN | apply below_drew1) | exact HB.out)))); (case aL => omega); intro v302 w25 ho hb hg hat; have n0_ := Aside0.mk (hb); have n1_ := Aside0.mk (ho); have n2_ := Aside0.mk (hat); clear HB HO9; have HB := n0_; have HO9 := n1_; have HAT := n2_; clear n0_ n1_ n2_ ho hb hg hat))
                    go_roundg k1
                    case measure => have := HK1.out; omega
                    case rel => exact ⟨(xs ++ [i]), (wrap64 (i + 1)), (by first | rfl | (simp; done) | (simp [*]; done)), H', ⟨by have := HK1.out; omega⟩, ⟨by (with_reducible repeat (first | apply Kd.R_alloc | apply Kd.R_drewN | apply Kd.R_drew)); exact HO9.out⟩, ⟨by repeat (first | (with_reducible first | exact HB.out | apply below_alloc | apply pw_below_drewN | apply below_drew1) | exact HB.out)⟩⟩
                  · rw [if_neg cl] at H
                    exact absurd H (by simp)
                | false =>
                  rw [hb] at hx0
                  rw [hb, if_neg Bool.false_ne_true] at H
                  clear hb
                  have H' := Aside0.mk H
                  clear H
                  go_wp2
                  go_roundg k1
                  case measure => have := HK1.out; omega
                  case rel => exact ⟨xs, (wrap64 (i + 1)), (by first | rfl | (simp; done) | (simp [*]; done)), H', ⟨by have := HK1.out; omega⟩, ⟨by (with_reducible repeat (first | apply Kd.R_alloc | apply Kd.R_drewN | apply Kd.R_drew)); exact HO9.out⟩, ⟨by repeat (first | (with_reducible first | exact HB.out | apply below_alloc | apply pw_below_drewN | apply below_drew1) | exact HB.out)⟩⟩
              · rw [if_neg c9] at H
                exact absurd H (by simp)
            · rw [if_neg c8] at H
              have c8b := decide_eq_false c8
              clear c8
              simp only [Option.some.injEq, Prod.mk.injEq] at H
              obtain ⟨rfl, rfl⟩ := H
              go_wp2
              go_ret2
              exact ⟨_, rfl, Kd.R_lower (by (with_reducible repeat (first | apply Kd.R_alloc | apply Kd.R_drewN | apply Kd.R_drew)); exact HO9.out) HB8.out.size, below_step HB8.out (by repeat (first | (with_reducible first | exact HB.out | apply below_alloc | apply pw_below_drewN | apply below_drew1) | exact HB.out))⟩
      · rw [if_neg c7] at H
        have c7b1 : (q2 != 0) = true := bne_iff_ne.mpr c7
        clear c7
        simp only [Option.some.injEq, Prod.mk.injEq] at H
        obtain ⟨rfl, rfl⟩ := H
        go_enter Tryd.func36, Tryd.ntmps36
        go_upto_region 2 with (first
          | ((with_reducible refine gate_dst (N := 2) rfl ?_); refine box_event ?hg (N := 2) ?hd (cs := #[.slice A0 l0.length c0]) (t := 42) ?hr ?_; (case hd => rfl); (case hg => rfl); (case hr => first | (go_simp; done) | (go_simp; rfl)); intro g2 hg wg2 hbox hb; have m0_ := Aside0.mk (by rw [hg]; exact below_size (by repeat (first | (with_reducible first | exact HB.out | apply below_alloc | apply pw_below_drewN | apply below_drew1) | exact HB.out)) : w.heap.size ≤ g2); have m1_ := Aside0.mk (below_step (by repeat (first | (with_reducible first | exact HB.out | apply below_alloc | apply pw_below_drewN | apply below_drew1) | exact HB.out)) hb); clear HB ; have HB := m1_; have GEg2 := m0_; have B2 := Aside0.mk hbox; clear hg hbox hb; have f2 : wg2.cell? ⟨g2, 0, none⟩ = some (.slice A0 l0.length c0) := (blk_cell B2.out 0).trans rfl)
          | ((with_reducible refine gate_callee (f := 80) rfl ?_); refine goesL_ (some 14) rfl rfl Tryd.func80 (by kernel_rfl) rfl #[.slice A0 l0.length c0] rfl (by (try simp only [List.map_toArray, List.map_cons, List.map_nil]); first | done | rfl | (simp only [List.length_drop, List.length_take]; rfl)) ?_; (with_reducible refine (gauge_virtual.calls k _ _ l0 sz t _ ?side1 ?side2 A3.out (by exact sig_below HS.out (by repeat (first | (with_reducible first | exact HB.out | apply below_alloc | apply pw_below_drewN | apply below_drew1) | exact HB.out)))).mono ?_); (case side1 => repeat (first | exact (Kd.C_below HR0.out HB.out) | (with_reducible refine Kd.C_alloc ?_ _) | (with_reducible refine Kd.C_drewN ?_ _) | (with_reducible refine Kd.C_drew ?_))); (case side2 => exact HC0.out); rintro e w6 ⟨v114, rfl, ho0, hb⟩; refine ⟨_, rfl, ?_⟩; have o0_ := Aside0.mk (blk_below B2.out hb); have n0_ := Aside0.mk (Kd.R_lower ho0 (below_size (by repeat (first | (with_reducible first | exact HB.out | apply below_alloc | apply pw_below_drewN | apply below_drew1) | exact HB.out)))); have n1_ := Aside0.mk (below_step (by repeat (first | (with_reducible first | exact HB.out | apply below_alloc | apply pw_below_drewN | apply below_drew1) | exact HB.out)) hb); clear HB B2; have HO := n0_; have HB := n1_; have B2 := o0_; clear n0_ n1_ hb ho0; obtain ⟨Ao, co, eo⟩ := Kd.R_slice HO.out; subst eo)
          | ((with_reducible refine gate_dst (N := 6) rfl ?_); refine box_event ?hg (N := 6) ?hd (cs := #[.slice none 0 0]) (t := 58) ?hr ?_; (case hd => rfl); (case hg => rfl); (case hr => first | (go_simp; done) | (go_simp; rfl)); intro g6 hg wg6 hbox hb; have m0_ := Aside0.mk (by rw [hg]; exact below_size (by repeat (first | (with_reducible first | exact HB.out | apply below_alloc | apply pw_below_drewN | apply below_drew1) | exact HB.out)) : w.heap.size ≤ g6); have m1_ := Aside0.mk (below_step (by repeat (first | (with_reducible first | exact HB.out | apply below_alloc | apply pw_below_drewN | apply below_drew1) | exact HB.out)) hb); have o0_ := Aside0.mk (blk_below B2.out hb); have q0_ := Aside0.mk (by rw [hg]; exact Nat.ne_of_gt (blk_lt B2.out) : g6 ≠ _); have h_ := Aside0.mk (Kd.R_below (Kd.R_elderB (by (with_reducible repeat (first | apply Kd.R_alloc | apply Kd.R_drewN | apply Kd.R_drew)); exact HO.out) g6 (Nat.le_of_eq hg.symm)) hb); clear HB B2 HO; have HB := m1_; have GEg6 := m0_; have B2 := o0_; have NE62 := q0_; have HO := h_; have B6 := Aside0.mk hbox; clear hg hbox hb; have f0 : wg6.cell? ⟨g6, 0, none⟩ = some (.slice none 0 0) := (blk_cell B6.out 0).trans rfl; have f1 := blk_frozen B6.out 0))
        have HB7 := below_set HB.out (j := 0) (v := (.slice Ao sz.length co)) GEg6.out
        have B27 := blk_far B2.out (p := ⟨g6, 0, none⟩) NE62.out.symm (.slice Ao sz.length co)
        have B67 := blk_put B6.out 0 (.slice Ao sz.length co) rfl
        have HO7 := Kd.R_mono (Kd.R_far (p := ⟨g6, 0, none⟩) HO.out (fun _ hk => hk.2) (.slice Ao sz.length co)) (ok' := fun _ => True) (fun _ _ => trivial)
        generalize wg6.setCell ⟨g6, 0, none⟩ (.slice Ao sz.length co) = w7 at HB7 B27 B67 HO7 ⊢
        clear HB B2 B6 HO f0 f1 NE62
        have HB := Aside0.mk HB7
        have B2 := Aside0.mk B27
        have B6 := Aside0.mk B67
        have HO := Aside0.mk HO7
        have m2 : w7.cell? ⟨g2, 0, none⟩ = some (.slice A0 l0.length c0) := (blk_cell B2.out 0).trans rfl
        clear HB7 B27 B67 HO7
        go_wp2_with (first | (go_at_call 88; (with_reducible refine (gauge_Worn.tool l0 sz g2 g6 A0 c0 Ao co k _ _ l1 q1 q2 _ ?side1 ?side2 A6.out ?side3 ?side4 ?side5 ?side6).mono ?_); (case side1 => repeat (first | exact (Kd.C_below HR1.out HB.out) | (with_reducible refine Kd.C_alloc ?_ _) | (with_reducible refine Kd.C_drewN ?_ _) | (with_reducible refine Kd.C_drew ?_))); (case side2 => exact HC1.out); (case side3 => exact B2.out); (case side4 => exact B6.out); (case side5 => exact (Kd.C_below HR0.out HB.out)); (case side6 => exact (Kd.R_reads' HO.out).2.2); rintro e w8 ⟨v114, rfl, ho0, hb⟩; have n0_ := Aside0.mk (Kd.R_lower ho0 (below_size (by repeat (first | (with_reducible first | exact HB.out | apply below_alloc | apply pw_below_drewN | apply below_drew1) | exact HB.out)))); have n1_ := Aside0.mk (below_step (by repeat (first | (with_reducible first | exact HB.out | apply below_alloc | apply pw_below_drewN | apply below_drew1) | exact HB.out)) hb); clear HB HO B2 B6 m2; have HO1 := n0_; have HB := n1_; clear n0_ n1_ hb ho0; obtain ⟨Ar, cr, er⟩ := Kd.R_slice HO1.out; subst er))
        go_ret2
        exact ⟨_, by first | rfl | (simp [errW_none, errW_some] <;> rfl) | (simp [*, errW_none, errW_some] <;> rfl), by first | exact Kd.R_nil _ _ _ _ _, by repeat (first | (with_reducible first | exact HB.out | apply below_alloc | apply pw_below_drewN | apply below_drew1) | exact HB.out)⟩
    · rw [if_neg c5] at H
      have c5b1 : ((l1.length : Int) != (l0.length : Int)) = true := bne_iff_ne.mpr c5
      clear c5
      simp only [Option.some.injEq, Prod.mk.injEq] at H
      obtain ⟨rfl, rfl⟩ := H
      go_enter Tryd.func36, Tryd.ntmps36
      go_upto_region 2 with (first
        | ((with_reducible refine gate_dst (N := 2) rfl ?_); refine box_event ?hg (N := 2) ?hd (cs := #[.slice A0 l0.length c0]) (t := 42) ?hr ?_; (case hd => rfl); (case hg => rfl); (case hr => first | (go_simp; done) | (go_simp; rfl)); intro g2 hg wg2 hbox hb; have m0_ := Aside0.mk (by rw [hg]; exact below_size (by repeat (first | (with_reducible first | exact HB.out | apply below_alloc | apply pw_below_drewN | apply below_drew1) | exact HB.out)) : w.heap.size ≤ g2); have m1_ := Aside0.mk (below_step (by repeat (first | (with_reducible first | exact HB.out | apply below_alloc | apply pw_below_drewN | apply below_drew1) | exact HB.out)) hb); clear HB ; have HB := m1_; have GEg2 := m0_; have B2 := Aside0.mk hbox; clear hg hbox hb; have f2 : wg2.cell? ⟨g2, 0, none⟩ = some (.slice A0 l0.length c0) := (blk_cell B2.out 0).trans rfl)
        | ((with_reducible refine gate_callee (f := 80) rfl ?_); refine goesL_ (some 14) rfl rfl Tryd.func80 (by kernel_rfl) rfl #[.slice A0 l0.length c0] rfl (by (try simp only [List.map_toArray, List.map_cons, List.map_nil]); first | done | rfl | (simp only [List.length_drop, List.length_take]; rfl)) ?_; (with_reducible refine (gauge_virtual.calls k _ _ l0 sz t _ ?side1 ?side2 A3.out (by exact sig_below HS.out (by repeat (first | (with_reducible first | exact HB.out | apply below_alloc | apply pw_below_drewN | apply below_drew1) | exact HB.out)))).mono ?_); (case side1 => repeat (first | exact (Kd.C_below HR0.out HB.out) | (with_reducible refine Kd.C_alloc ?_ _) | (with_reducible refine Kd.C_drewN ?_ _) | (with_reducible refine Kd.C_drew ?_))); (case side2 => exact HC0.out); rintro e w6 ⟨v114, rfl, ho0, hb⟩; refine ⟨_, rfl, ?_⟩; have o0_ := Aside0.mk (blk_below B2.out hb); have n0_ := Aside0.mk (Kd.R_lower ho0 (below_size (by repeat (first | (with_reducible first | exact HB.out | apply below_alloc | apply pw_below_drewN | apply below_drew1) | exact HB.out)))); have n1_ := Aside0.mk (below_step (by repeat (first | (with_reducible first | exact HB.out | apply below_alloc | apply pw_below_drewN | apply below_drew1) | exact HB.out)) hb); clear HB B2; have HO := n0_; have HB := n1_; have B2 := o0_; clear n0_ n1_ hb ho0; obtain ⟨Ao, co, eo⟩ := Kd.R_slice HO.out; subst eo)
        | ((with_reducible refine gate_dst (N := 6) rfl ?_); refine box_event ?hg (N := 6) ?hd (cs := #[.slice none 0 0]) (t := 58) ?hr ?_; (case hd => rfl); (case hg => rfl); (case hr => first | (go_simp; done) | (go_simp; rfl)); intro g6 hg wg6 hbox hb; have m0_ := Aside0.mk (by rw [hg]; exact below_size (by repeat (first | (with_reducible first | exact HB.out | apply below_alloc | apply pw_below_drewN | apply below_drew1) | exact HB.out)) : w.heap.size ≤ g6); have m1_ := Aside0.mk (below_step (by repeat (first | (with_reducible first | exact HB.out | apply below_alloc | apply pw_below_drewN | apply below_drew1) | exact HB.out)) hb); have o0_ := Aside0.mk (blk_below B2.out hb); have q0_ := Aside0.mk (by rw [hg]; exact Nat.ne_of_gt (blk_lt B2.out) : g6 ≠ _); have h_ := Aside0.mk (Kd.R_below (Kd.R_elderB (by (with_reducible repeat (first | apply Kd.R_alloc | apply Kd.R_drewN | apply Kd.R_drew)); exact HO.out) g6 (Nat.le_of_eq hg.symm)) hb); clear HB B2 HO; have HB := m1_; have GEg6 := m0_; have B2 := o0_; have NE62 := q0_; have HO := h_; have B6 := Aside0.mk hbox; clear hg hbox hb; have f0 : wg6.cell? ⟨g6, 0, none⟩ = some (.slice none 0 0) := (blk_cell B6.out 0).trans rfl; have f1 := blk_frozen B6.out 0))
      have HB7 := below_set HB.out (j := 0) (v := (.slice Ao sz.length co)) GEg6.out
      have B27 := blk_far B2.out (p := ⟨g6, 0, none⟩) NE62.out.symm (.slice Ao sz.length co)
      have B67 := blk_put B6.out 0 (.slice Ao sz.length co) rfl
      have HO7 := Kd.R_mono (Kd.R_far (p := ⟨g6, 0, none⟩) HO.out (fun _ hk => hk.2) (.slice Ao sz.length co)) (ok' := fun _ => True) (fun _ _ => trivial)
      generalize wg6.setCell ⟨g6, 0, none⟩ (.slice Ao sz.length co) = w7 at HB7 B27 B67 HO7 ⊢
      clear HB B2 B6 HO f0 f1 NE62
      have HB := Aside0.mk HB7
      have B2 := Aside0.mk B27
      have B6 := Aside0.mk B67
      have HO := Aside0.mk HO7
      have m2 : w7.cell? ⟨g2, 0, none⟩ = some (.slice A0 l0.length c0) := (blk_cell B2.out 0).trans rfl
      clear HB7 B27 B67 HO7
      go_wp2
      go_ret2
      exact ⟨_, by first | rfl | (simp [errW_none, errW_some] <;> rfl) | (simp [*, errW_none, errW_some] <;> rfl), by first | exact Kd.R_nil _ _ _ _ _, by repeat (first | (with_reducible first | exact HB.out | apply below_alloc | apply pw_below_drewN | apply below_drew1) | exact HB.out)⟩
  · rw [if_neg c4] at H
    have c4b1 : (t != 0) = true := bne_iff_ne.mpr c4
    clear c4
    simp only [Option.some.injEq, Prod.mk.injEq] at H
    obtain ⟨rfl, rfl⟩ := H
    go_enter Tryd.func36, Tryd.ntmps36
    go_upto_region 2 with (first
      | ((with_reducible refine gate_dst (N := 2) rfl ?_); refine box_event ?hg (N := 2) ?hd (cs := #[.slice A0 l0.length c0]) (t := 42) ?hr ?_; (case hd => rfl); (case hg => rfl); (case hr => first | (go_simp; done) | (go_simp; rfl)); intro g2 hg wg2 hbox hb; have m0_ := Aside0.mk (by rw [hg]; exact below_size (by repeat (first | (with_reducible first | exact HB.out | apply below_alloc | apply pw_below_drewN | apply below_drew1) | exact HB.out)) : w.heap.size ≤ g2); have m1_ := Aside0.mk (below_step (by repeat (first | (with_reducible first | exact HB.out | apply below_alloc | apply pw_below_drewN | apply below_drew1) | exact HB.out)) hb); clear HB ; have HB := m1_; have GEg2 := m0_; have B2 := Aside0.mk hbox; clear hg hbox hb; have f2 : wg2.cell? ⟨g2, 0, none⟩ = some (.slice A0 l0.length c0) := (blk_cell B2.out 0).trans rfl)
      | ((with_reducible refine gate_callee (f := 80) rfl ?_); refine goesL_ (some 14) rfl rfl Tryd.func80 (by kernel_rfl) rfl #[.slice A0 l0.length c0] rfl (by (try simp only [List.map_toArray, List.map_cons, List.map_nil]); first | done | rfl | (simp only [List.length_drop, List.length_take]; rfl)) ?_; (with_reducible refine (gauge_virtual.calls k _ _ l0 sz t _ ?side1 ?side2 A3.out (by exact sig_below HS.out (by repeat (first | (with_reducible first | exact HB.out | apply below_alloc | apply pw_below_drewN | apply below_drew1) | exact HB.out)))).mono ?_); (case side1 => repeat (first | exact (Kd.C_below HR0.out HB.out) | (with_reducible refine Kd.C_alloc ?_ _) | (with_reducible refine Kd.C_drewN ?_ _) | (with_reducible refine Kd.C_drew ?_))); (case side2 => exact HC0.out); rintro e w6 ⟨v114, rfl, ho0, hb⟩; refine ⟨_, rfl, ?_⟩; have o0_ := Aside0.mk (blk_below B2.out hb); have n0_ := Aside0.mk (Kd.R_lower ho0 (below_size (by repeat (first | (with_reducible first | exact HB.out | apply below_alloc | apply pw_below_drewN | apply below_drew1) | exact HB.out)))); have n1_ := Aside0.mk (below_step (by repeat (first | (with_reducible first | exact HB.out | apply below_alloc | apply pw_below_drewN | apply below_drew1) | exact HB.out)) hb); clear HB B2; have HO := n0_; have HB := n1_; have B2 := o0_; clear n0_ n1_ hb ho0; obtain ⟨Ao, co, eo⟩ := Kd.R_slice HO.out; subst eo)
      | ((with_reducible refine gate_dst (N := 6) rfl ?_); refine box_event ?hg (N := 6) ?hd (cs := #[.slice none 0 0]) (t := 58) ?hr ?_; (case hd => rfl); (case hg => rfl); (case hr => first | (go_simp; done) | (go_simp; rfl)); intro g6 hg wg6 hbox hb; have m0_ := Aside0.mk (by rw [hg]; exact below_size (by repeat (first | (with_reducible first | exact HB.out | apply below_alloc | apply pw_below_drewN | apply below_drew1) | exact HB.out)) : w.heap.size ≤ g6); have m1_ := Aside0.mk (below_step (by repeat (first | (with_reducible first | exact HB.out | apply below_alloc | apply pw_below_drewN | apply below_drew1) | exact HB.out)) hb); have o0_ := Aside0.mk (blk_below B2.out hb); have q0_ := Aside0.mk (by rw [hg]; exact Nat.ne_of_gt (blk_lt B2.out) : g6 ≠ _); have h_ := Aside0.mk (Kd.R_below (Kd.R_elderB (by (with_reducible repeat (first | apply Kd.R_alloc | apply Kd.R_drewN | apply Kd.R_drew)); exact HO.out) g6 (Nat.le_of_eq hg.symm)) hb); clear HB B2 HO; have HB := m1_; have GEg6 := m0_; have B2 := o0_; have NE62 := q0_; have HO := h_; have B6 := Aside0.mk hbox; clear hg hbox hb; have f0 : wg6.cell? ⟨g6, 0, none⟩ = some (.slice none 0 0) := (blk_cell B6.out 0).trans rfl; have f1 := blk_frozen B6.out 0))
    have HB7 := below_set HB.out (j := 0) (v := (.slice Ao sz.length co)) GEg6.out
    have B27 := blk_far B2.out (p := ⟨g6, 0, none⟩) NE62.out.symm (.slice Ao sz.length co)
    have B67 := blk_put B6.out 0 (.slice Ao sz.length co) rfl
    have HO7 := Kd.R_mono (Kd.R_far (p := ⟨g6, 0, none⟩) HO.out (fun _ hk => hk.2) (.slice Ao sz.length co)) (ok' := fun _ => True) (fun _ _ => trivial)
    generalize wg6.setCell ⟨g6, 0, none⟩ (.slice Ao sz.length co) = w7 at HB7 B27 B67 HO7 ⊢
    clear HB B2 B6 HO f0 f1 NE62
    have HB := Aside0.mk HB7
    have B2 := Aside0.mk B27
    have B6 := Aside0.mk B67
    have HO := Aside0.mk HO7
    have m2 : w7.cell? ⟨g2, 0, none⟩ = some (.slice A0 l0.length c0) := (blk_cell B2.out 0).trans rfl
    clear HB7 B27 B67 HO7
    go_wp2
    go_ret2
    exact ⟨_, by first | rfl | (simp [errW_none, errW_some] <;> rfl) | (simp [*, errW_none, errW_some] <;> rfl), by first | exact Kd.R_nil _ _ _ _ _, by repeat (first | (with_reducible first | exact HB.out | apply below_alloc | apply pw_below_drewN | apply below_drew1) | exact HB.out)⟩
end Go.Proofs.YtjemaonejkepcaaDoor.G
namespace Go.Proofs.YtjemaonejkepcaaDoor.G
open Go.Proofs.YtjemaonejkepcaaDoor.B
open Go.RowKit Go.Proofs.YtjemaonejkepcaaDoorW.PrintWords Go.Proofs.YtjemaonejkepcaaDoorW.PrintLast Go.Proofs.YtjemaonejkepcaaDoorW.PrintMore
attribute [local go_sem] max2_int min2_int max_two min_two max_three min_three max_four min_four   -- for this text's walks alone
set_option linter.unusedVariables false
set_option linter.unusedSimpArgs false
def slices_Equal_int_int.l0 : Nat → List Int → List Int → Int → Int → Option (Bool)
  | 0, _, _, _, _ => none
  | k + 1, x0, x1, x12, x13 => if x13 < x12 then (if 0 ≤ x13 then (if x13 < (x0.length : Int) then (if x13 < (x1.length : Int) then (if (rd x0 x13) = (rd x1 x13) then (slices_Equal_int_int.l0 k x0 x1 x12 (wrap64 (x13 + 1))) else (some false)) else (none)) else (none)) else (none)) else (some true)
def slices_Equal_int_int.f (k : Nat) (l0 : List Int) (l1 : List Int) : Option (Bool) := if (l0.length : Int) = (l1.length : Int) then (slices_Equal_int_int.l0 k l0 l1 (l0.length : Int) 0) else (some false)
theorem slices_Equal_int_int.mono_l : ∀ k, (∀ y0 y1 y2 y3, LeO (slices_Equal_int_int.l0 k y0 y1 y2 y3) (slices_Equal_int_int.l0 (k + 1) y0 y1 y2 y3))
  | 0 => fun _ _ _ _ r h => by simp [slices_Equal_int_int.l0] at h
  | k + 1 => by
    have ih0 := slices_Equal_int_int.mono_l k
    · intro y0 y1 y2 y3
      unfold slices_Equal_int_int.l0
      repeat' first
      | (with_reducible exact ih0 _ _ _ _)
      | (with_reducible exact LeO.refl _)
      | (with_reducible exact LeO.none _)
      | (with_reducible refine LeO.ite ?_ ?_)
      | (with_reducible refine LeO.bind ?_ (fun _ => ?_))
      | exact ih0 _ _ _ _
      | exact LeO.none _
      | refine LeO.ite ?_ ?_
      | refine LeO.bind ?_ (fun _ => ?_)
theorem slices_Equal_int_int.mono : ∀ a0 a1 k, LeO (slices_Equal_int_int.f k a0 a1) (slices_Equal_int_int.f (k + 1) a0 a1) := by
  intro a0 a1 k
  have ih0 := slices_Equal_int_int.mono_l k
  unfold slices_Equal_int_int.f
  repeat' first
      | (with_reducible exact ih0 _ _ _ _)
      | (with_reducible exact LeO.refl _)
      | (with_reducible exact LeO.none _)
      | (with_reducible refine LeO.ite ?_ ?_)
      | (with_reducible refine LeO.bind ?_ (fun _ => ?_))
      | exact ih0 _ _ _ _
      | exact LeO.none _
      | refine LeO.ite ?_ ?_
      | refine LeO.bind ?_ (fun _ => ?_)
set_option maxHeartbeats 8000000 in
set_option maxRecDepth 100000 in
theorem slices_Equal_int_int.calls (k : Nat) (A0 : Option Addr) (c0 : Nat) (l0 : List Int) (A1 : Option Addr) (c1 : Nat) (l1 : List Int) (r : Bool) (w : World) (hr0 : Kd.C (Kd.int .i64) w A0 l0.length l0) (hc0 : l0.length ≤ c0) (hr1 : Kd.C (Kd.int .i64) w A1 l1.length l1) (hc1 : l1.length ≤ c1) (h : slices_Equal_int_int.f k l0 l1 = some r) :
    Calls Tryd.prog 55 #[.slice A0 l0.length c0, .slice A1 l1.length c1] w fun e w' => e = .returned (.bool r) ∧ Drawn0 w w' := by
  have HR0 := Aside0.mk hr0
  have HC0 := Aside0.mk hc0
  clear hr0 hc0
  have HR1 := Aside0.mk hr1
  have HC1 := Aside0.mk hc1
  clear hr1 hc1
  have H : (if (l0.length : Int) = (l1.length : Int) then (slices_Equal_int_int.l0 k l0 l1 (l0.length : Int) 0) else (some false)) = some r := h
  clear h
  by_cases c3 : (l0.length : Int) = (l1.length : Int)
  · rw [if_pos c3] at H
    have c3b0 : ((l0.length : Int) == (l1.length : Int)) = true := beq_iff_eq.mpr c3
    have c3b1 : ((l0.length : Int) != (l1.length : Int)) = false := bne_eq_false_iff_eq.mpr c3
    have c3b2 : (l0.length == l1.length) = true := by first | simpa using c3 | (simp at c3 ⊢; omega)
    clear c3
    have H' := Aside0.mk H
    clear H
    go_enter Tryd.func55, Tryd.ntmps55
    go_wp2
    repeat (go_quiet (fail); try go_wp2)
    go_loopg [13] k (fun kq v13 w' => ∃ (x13_1 : Int), v13 = .int .i64 x13_1 ∧ Aside0 (slices_Equal_int_int.l0 kq l0 l1 (l0.length : Int) x13_1 = some r) ∧ Aside0 (kq ≤ k) ∧ Drawn0 w w')
    case atStart => exact ⟨(0), (by first | rfl | (simp; done) | (simp [*]; done)), H', ⟨Nat.le_refl _⟩, by repeat (first | exact Drawn0.refl _ | apply Drawn0.step)⟩
    case round =>
      clear H'
      try clear c1
      try clear p2
      try clear c3
      try clear c3b0
      try clear c3b1
      try clear c3b2
      obtain ⟨x13_1, rfl, HA, HK1, ⟨m1, rfl⟩⟩ := hrel
      cases gk with
      | zero => exact absurd HA.out (by simp [slices_Equal_int_int.l0])
      | succ k1 =>
        have H := HA.out
        clear HA
        simp only [slices_Equal_int_int.l0] at H
        by_cases c4 : x13_1 < (l0.length : Int)
        · rw [if_pos c4] at H
          have c4b0 : decide (x13_1 < (l0.length : Int)) = true := decide_eq_true c4
          clear c4
          by_cases c5 : 0 ≤ x13_1
          · rw [if_pos c5] at H
            have c5b0 : decide (0 ≤ x13_1) = true := decide_eq_true c5
            clear c5
            by_cases c6 : x13_1 < (l0.length : Int)
            · rw [if_pos c6] at H
              have c6b0 : decide (x13_1 < (l0.length : Int)) = true := decide_eq_true c6
              clear c6
              by_cases c7 : x13_1 < (l1.length : Int)
              · rw [if_pos c7] at H
                have c7b0 : decide (x13_1 < (l1.length : Int)) = true := decide_eq_true c7
                clear c7
                by_cases c8 : (rd l0 x13_1) = (rd l1 x13_1)
                · rw [if_pos c8] at H
                  have c8b0 : ((rd l0 x13_1) == (rd l1 x13_1)) = true := beq_iff_eq.mpr c8
                  have c8b1 : ((rd l0 x13_1) != (rd l1 x13_1)) = false := bne_eq_false_iff_eq.mpr c8
                  clear c8
                  have H' := Aside0.mk H
                  clear H
                  have p168 : 0 ≤ (x13_1 : Int) := of_decide_eq_true (by first | (with_reducible assumption) | assumption)
                  have q168 : x13_1 < (l0.length : Int) := of_decide_eq_true (by first | (with_reducible assumption) | assumption)
                  obtain ⟨ad168, e168, hx168_0⟩ := Kd.at_int HR0.out x13_1 p168 q168
                  cases e168
                  replace p168 := eq_true p168
                  replace q168 := eq_true q168
                  have p169 : 0 ≤ (x13_1 : Int) := of_decide_eq_true (by first | (with_reducible assumption) | assumption)
                  have q169 : x13_1 < (l1.length : Int) := of_decide_eq_true (by first | (with_reducible assumption) | assumption)
                  obtain ⟨ad169, e169, hx169_0⟩ := Kd.at_int HR1.out x13_1 p169 q169
                  cases e169
                  replace p169 := eq_true p169
                  replace q169 := eq_true q169
                  go_wp2
                  repeat (go_quiet (fail); try go_wp2)
                  go_roundg k1
                  case measure => have := HK1.out; omega
                  case rel => exact ⟨(wrap64 (x13_1 + 1)), (by first | rfl | (simp; done) | (simp [*]; done)), H', ⟨by have := HK1.out; omega⟩, by repeat (first | exact Drawn0.refl _ | apply Drawn0.step)⟩
                · rw [if_neg c8] at H
                  have c8b0 : ((rd l0 x13_1) == (rd l1 x13_1)) = false := beq_eq_false_iff_ne.mpr c8
                  have c8b1 : ((rd l0 x13_1) != (rd l1 x13_1)) = true := bne_iff_ne.mpr c8
                  obtain rfl := Option.some.inj H
                  have p168 : 0 ≤ (x13_1 : Int) := of_decide_eq_true (by first | (with_reducible assumption) | assumption)
                  have q168 : x13_1 < (l0.length : Int) := of_decide_eq_true (by first | (with_reducible assumption) | assumption)
                  obtain ⟨ad168, e168, hx168_0⟩ := Kd.at_int HR0.out x13_1 p168 q168
                  cases e168
                  replace p168 := eq_true p168
                  replace q168 := eq_true q168
                  have p169 : 0 ≤ (x13_1 : Int) := of_decide_eq_true (by first | (with_reducible assumption) | assumption)
                  have q169 : x13_1 < (l1.length : Int) := of_decide_eq_true (by first | (with_reducible assumption) | assumption)
                  obtain ⟨ad169, e169, hx169_0⟩ := Kd.at_int HR1.out x13_1 p169 q169
                  cases e169
                  replace p169 := eq_true p169
                  replace q169 := eq_true q169
                  go_wp2
                  repeat (go_quiet (fail); try go_wp2)
                  go_ret
                  exact ⟨by first | rfl | (simp; done) | (simp [*]; done), by repeat (first | exact Drawn0.refl _ | apply Drawn0.step)⟩
              · rw [if_neg c7] at H
                exact absurd H (by simp)
            · rw [if_neg c6] at H
              exact absurd H (by simp)
          · rw [if_neg c5] at H
            exact absurd H (by simp)
        · rw [if_neg c4] at H
          have c4b0 : decide (x13_1 < (l0.length : Int)) = false := decide_eq_false c4
          clear c4
          obtain rfl := Option.some.inj H
          go_wp2
          repeat (go_quiet (fail); try go_wp2)
          go_ret
          exact ⟨by first | rfl | (simp; done) | (simp [*]; done), by repeat (first | exact Drawn0.refl _ | apply Drawn0.step)⟩
  · rw [if_neg c3] at H
    have c3b0 : ((l0.length : Int) == (l1.length : Int)) = false := beq_eq_false_iff_ne.mpr c3
    have c3b1 : ((l0.length : Int) != (l1.length : Int)) = true := bne_iff_ne.mpr c3
    have c3b2 : (l0.length == l1.length) = false := by first | simpa using c3 | (simp at c3 ⊢; omega)
    obtain rfl := Option.some.inj H
    go_enter Tryd.func55, Tryd.ntmps55
    go_wp2
    repeat (go_quiet (fail); try go_wp2)
    go_ret
    exact ⟨by first | rfl | (simp; done) | (simp [*]; done), by repeat (first | exact Drawn0.refl _ | apply Drawn0.step)⟩
end Go.Proofs.YtjemaonejkepcaaDoor.G
namespace Go.Proofs.YtjemaonejkepcaaDoor.G
open Go.Proofs.YtjemaonejkepcaaDoor.B
open Go.RowKit Go.Proofs.YtjemaonejkepcaaDoorW.PrintWords Go.Proofs.YtjemaonejkepcaaDoorW.PrintLast Go.Proofs.YtjemaonejkepcaaDoorW.PrintMore
attribute [local go_sem] max2_int min2_int max_two min_two max_three min_three max_four min_four   -- for this text's walks alone
set_option linter.unusedVariables false
set_option linter.unusedSimpArgs false
attribute [local go_sem high] eqA25
def metrolablaw47_Pair.f  : Option ((List (S27))) := some (([(⟨(⟨0, 0⟩ : S23), (⟨100, 110⟩ : S25), 8, 1, false⟩ : S27), (⟨(⟨500, 0⟩ : S23), (⟨50, 60⟩ : S25), 4, 1, true⟩ : S27)] : List (S27)))
set_option maxHeartbeats 8000000 in
set_option maxRecDepth 100000 in
theorem metrolablaw47_Pair.calls  (r : List (S27)) (w : World) (h : metrolablaw47_Pair.f  = some r) :
    Calls Tryd.prog 79 #[] w fun e w' => ∃ v0_ : Value, e = .returned (v0_) ∧ Kd.R k27 27 w' w.heap.size (fun _ => True) v0_ r ∧ Below w.heap.size w w' := by
  have hu25 := Tryd.underlying25
  have hu27 := Tryd.underlying27
  have hu23 := Tryd.underlying23
  have HB := Aside0.mk (Below.refl w.heap.size w)
  have H : (some (([(⟨(⟨0, 0⟩ : S23), (⟨100, 110⟩ : S25), 8, 1, false⟩ : S27), (⟨(⟨500, 0⟩ : S23), (⟨50, 60⟩ : S25), 4, 1, true⟩ : S27)] : List (S27)))) = some r := h
  clear h
  obtain ⟨y170, hy170⟩ : ∃ y_ : List (S27), y_ = (([(⟨(⟨0, 0⟩ : S23), (⟨100, 110⟩ : S25), 8, 1, false⟩ : S27), (⟨(⟨500, 0⟩ : S23), (⟨50, 60⟩ : S25), 4, 1, true⟩ : S27)] : List (S27))) := ⟨_, rfl⟩
  replace H : (some y170) = some r := by first | (rw [hy170]; with_reducible exact H) | (have H2_ := (Option.bind_some _ _).symm.trans H; rw [hy170]; with_reducible exact H2_) | (have H2_ := (Option.bind_some _ _).symm.trans H; with_reducible exact H2_) | with_reducible exact H | (rw [hy170]; exact H) | exact H
  have Ny170 := Aside0.mk hy170
  clear hy170
  obtain rfl := Option.some.inj H
  go_enter Tryd.func79, Tryd.ntmps79
  go_wp2_with (first | ((with_reducible refine gate_dst (N := 6) rfl ?_); refine Kd.R_lit k27 _ 27 ?hg (N := 6) ?hd (xs := ([(⟨(⟨0, 0⟩ : S23), (⟨100, 110⟩ : S25), 8, 1, false⟩ : S27), (⟨(⟨500, 0⟩ : S23), (⟨50, 60⟩ : S25), 4, 1, true⟩ : S27)] : List (S27))) (inner := [.int .i64 0, .int .i64 0, .int .i64 100, .int .i64 110, .int .i64 8, .int .i64 1, .bool false, .int .i64 500, .int .i64 0, .int .i64 50, .int .i64 60, .int .i64 4, .int .i64 1, .bool true]) (ok := fun _ => True) (okp := fun _ => True) ?hr ?hp (fun _ hk => hk) trivial (Below.refl _ _) (Nat.le_refl _) (by simp) ?_; (case hd => rfl); (case hg => rfl); (case hr => first | (go_simp; done) | (go_simp; rfl)); (case hp => exact (Reps.c7 (show Kd.M k27 _ _ _ (⟨(⟨0, 0⟩ : S23), (⟨100, 110⟩ : S25), 8, 1, false⟩ : S27) [.int .i64 0, .int .i64 0, .int .i64 100, .int .i64 110, .int .i64 8, .int .i64 1, .bool false] from (k27_mkM _ _ _ (⟨(⟨0, 0⟩ : S23), (⟨100, 110⟩ : S25), 8, 1, false⟩ : S27) )) (Reps.c7 (show Kd.M k27 _ _ _ (⟨(⟨500, 0⟩ : S23), (⟨50, 60⟩ : S25), 4, 1, true⟩ : S27) [.int .i64 500, .int .i64 0, .int .i64 50, .int .i64 60, .int .i64 4, .int .i64 1, .bool true] from (k27_mkM _ _ _ (⟨(⟨500, 0⟩ : S23), (⟨50, 60⟩ : S25), 4, 1, true⟩ : S27) )) (Reps.none _ _)))); intro v171 w1 ho2 hb hg_ hnew_; clear hg_ hnew_; (first | rw [← Ny170.out] at ho2 | (simp only [Int.reduceToNat] at ho2; rw [← Ny170.out] at ho2)); have n0_ := Aside0.mk (Kd.R_lower ho2 (below_size (by repeat (first | (with_reducible first | exact HB.out | apply below_alloc | apply pw_below_drewN | apply below_drew1) | exact HB.out)))); have n1_ := Aside0.mk (below_step (by repeat (first | (with_reducible first | exact HB.out | apply below_alloc | apply pw_below_drewN | apply below_drew1) | exact HB.out)) hb); clear HB; have HO172 := n0_; have HB := n1_; clear n0_ n1_; clear hb ho2))
  go_ret
  exact ⟨_, by first | rfl | (simp [errW_none, errW_some] <;> rfl) | (simp [*, errW_none, errW_some] <;> rfl), by (with_reducible repeat (first | apply Kd.R_alloc | apply Kd.R_drewN | apply Kd.R_drew)); exact HO172.out, by repeat (first | (with_reducible first | exact HB.out | apply below_alloc | apply pw_below_drewN | apply below_drew1) | exact HB.out)⟩
mutual
def metrolablaw47_awake.j0 : Nat → List (S27) → List (S104) → Bool → Option (Bool)
  | 0, _, _, _ => none
  | k + 1, x1, x2, x50 => if x50 = true then (some false) else ((gauge_Loss.f k x1 x2).bind fun bt184 => ((gauge_Made.f k x2 true).bind fun bt186 => (if bt184.2 = 0 then (if bt186.2 = 0 then (if bt184.1 = 5 then ((gauge_Safe.f k x1 x2).bind fun t190 => (if t190 = 0 then (metrolablaw47_awake.j1 k x1 bt186.1 ((bt186.1.length : Int) != 2)) else (metrolablaw47_awake.j1 k x1 bt186.1 true))) else (metrolablaw47_awake.j1 k x1 bt186.1 true)) else (metrolablaw47_awake.j1 k x1 bt186.1 true)) else (metrolablaw47_awake.j1 k x1 bt186.1 true))))
def metrolablaw47_awake.j1 : Nat → List (S27) → List (S56) → Bool → Option (Bool)
  | 0, _, _, _ => none
  | k + 1, x1, x5, x82 => if x82 = true then (some false) else (if 0 < (x5.length : Int) then ((some (x5.set (0 : Int).toNat (⟨(⟨(rd_T56 x5 0).f0.f0, (rd_T56 x5 0).f0.f1⟩ : S23), (rd_T56 x5 0).f1, 91⟩ : S56) : List (S56))).bind fun y191 => (if 1 < (x5.length : Int) then ((gauge_Worn.f k x1 (y191.set (1 : Int).toNat (⟨(⟨(rd_T56 y191 1).f0.f0, (rd_T56 y191 1).f0.f1⟩ : S23), (rd_T56 y191 1).f1, 64⟩ : S56))).bind fun bt193 => (if bt193.2 = 0 then ((slices_Equal_int_int.f k bt193.1 (([0] : List Int))).bind fun t200 => (some t200)) else (some false))) else (none))) else (none))
end
def metrolablaw47_awake.f (k : Nat)  : Option (Bool) := (metrolablaw47_Pair.f).bind fun t173 => ((gauge_Design.f k t173 2 3).bind fun bt176 => (if bt176.2 = 0 then (if (bt176.1.length : Int) = 2 then (if 0 < (bt176.1.length : Int) then (if (!(((rd_T104 bt176.1 0).f2.f0) == 94) || (!(((rd_T104 bt176.1 0).f2.f1) == 97))) = true then (metrolablaw47_awake.j0 k t173 bt176.1 true) else (if (rd_T104 bt176.1 0).f1 = true then (metrolablaw47_awake.j0 k t173 bt176.1 true) else (if 1 < (bt176.1.length : Int) then (if (!(((rd_T104 bt176.1 1).f2.f0) == 59) || (!(((rd_T104 bt176.1 1).f2.f1) == 62))) = true then (metrolablaw47_awake.j0 k t173 bt176.1 true) else (metrolablaw47_awake.j0 k t173 bt176.1 (!((rd_T104 bt176.1 1).f1)))) else (none)))) else (none)) else (metrolablaw47_awake.j0 k t173 bt176.1 true)) else (metrolablaw47_awake.j0 k t173 bt176.1 true)))
theorem metrolablaw47_awake.mono_l : ∀ k, (∀ y0 y1 y2, LeO (metrolablaw47_awake.j0 k y0 y1 y2) (metrolablaw47_awake.j0 (k + 1) y0 y1 y2)) ∧ (∀ y0 y1 y2, LeO (metrolablaw47_awake.j1 k y0 y1 y2) (metrolablaw47_awake.j1 (k + 1) y0 y1 y2))
  | 0 => ⟨fun _ _ _ r h => by simp [metrolablaw47_awake.j0] at h, fun _ _ _ r h => by simp [metrolablaw47_awake.j1] at h⟩
  | k + 1 => by
    obtain ⟨ih0, ih1⟩ := metrolablaw47_awake.mono_l k
    refine ⟨?_, ?_⟩
    · intro y0 y1 y2
      unfold metrolablaw47_awake.j0
      repeat' first
      | (with_reducible exact ih0 _ _ _)
      | (with_reducible exact ih1 _ _ _)
      | (with_reducible exact gauge_Design.mono _ _ _ _)
      | (with_reducible exact gauge_Loss.mono _ _ _)
      | (with_reducible exact gauge_Made.mono _ _ _)
      | (with_reducible exact gauge_Safe.mono _ _ _)
      | (with_reducible exact gauge_Worn.mono _ _ _)
      | (with_reducible exact slices_Equal_int_int.mono _ _ _)
      | (with_reducible exact LeO.refl _)
      | (with_reducible exact LeO.none _)
      | (with_reducible refine LeO.ite ?_ ?_)
      | (with_reducible refine LeO.bind ?_ (fun _ => ?_))
      | exact ih0 _ _ _
      | exact ih1 _ _ _
      | exact gauge_Design.mono _ _ _ _
      | exact gauge_Loss.mono _ _ _
      | exact gauge_Made.mono _ _ _
      | exact gauge_Safe.mono _ _ _
      | exact gauge_Worn.mono _ _ _
      | exact slices_Equal_int_int.mono _ _ _
      | exact LeO.none _
      | refine LeO.ite ?_ ?_
      | refine LeO.bind ?_ (fun _ => ?_)
    · intro y0 y1 y2
      unfold metrolablaw47_awake.j1
      repeat' first
      | (with_reducible exact ih0 _ _ _)
      | (with_reducible exact ih1 _ _ _)
      | (with_reducible exact gauge_Design.mono _ _ _ _)
      | (with_reducible exact gauge_Loss.mono _ _ _)
      | (with_reducible exact gauge_Made.mono _ _ _)
      | (with_reducible exact gauge_Safe.mono _ _ _)
      | (with_reducible exact gauge_Worn.mono _ _ _)
      | (with_reducible exact slices_Equal_int_int.mono _ _ _)
      | (with_reducible exact LeO.refl _)
      | (with_reducible exact LeO.none _)
      | (with_reducible refine LeO.ite ?_ ?_)
      | (with_reducible refine LeO.bind ?_ (fun _ => ?_))
      | exact ih0 _ _ _
      | exact ih1 _ _ _
      | exact gauge_Design.mono _ _ _ _
      | exact gauge_Loss.mono _ _ _
      | exact gauge_Made.mono _ _ _
      | exact gauge_Safe.mono _ _ _
      | exact gauge_Worn.mono _ _ _
      | exact slices_Equal_int_int.mono _ _ _
      | exact LeO.none _
      | refine LeO.ite ?_ ?_
      | refine LeO.bind ?_ (fun _ => ?_)
theorem metrolablaw47_awake.mono : ∀ k, LeO (metrolablaw47_awake.f k ) (metrolablaw47_awake.f (k + 1) ) := by
  intro  k
  obtain ⟨ih0, ih1⟩ := metrolablaw47_awake.mono_l k
  unfold metrolablaw47_awake.f
  repeat' first
      | (with_reducible exact ih0 _ _ _)
      | (with_reducible exact ih1 _ _ _)
      | (with_reducible exact gauge_Design.mono _ _ _ _)
      | (with_reducible exact gauge_Loss.mono _ _ _)
      | (with_reducible exact gauge_Made.mono _ _ _)
      | (with_reducible exact gauge_Safe.mono _ _ _)
      | (with_reducible exact gauge_Worn.mono _ _ _)
      | (with_reducible exact slices_Equal_int_int.mono _ _ _)
      | (with_reducible exact LeO.refl _)
      | (with_reducible exact LeO.none _)
      | (with_reducible refine LeO.ite ?_ ?_)
      | (with_reducible refine LeO.bind ?_ (fun _ => ?_))
      | exact ih0 _ _ _
      | exact ih1 _ _ _
      | exact gauge_Design.mono _ _ _ _
      | exact gauge_Loss.mono _ _ _
      | exact gauge_Made.mono _ _ _
      | exact gauge_Safe.mono _ _ _
      | exact gauge_Worn.mono _ _ _
      | exact slices_Equal_int_int.mono _ _ _
      | exact LeO.none _
      | refine LeO.ite ?_ ?_
      | refine LeO.bind ?_ (fun _ => ?_)
set_option maxHeartbeats 8000000 in
set_option maxRecDepth 100000 in
theorem metrolablaw47_awake.calls (k : Nat)  (r : Bool) (w : World) (h : metrolablaw47_awake.f k  = some r) (hS : SignsAt w) :
    Calls Tryd.prog 30 #[] w fun e w' => e = .returned (.bool r) ∧ Below w.heap.size w w' := by
  have HS := Aside0.mk hS
  clear hS
  have hu44 := Tryd.underlying44
  have hu25 := Tryd.underlying25
  have HB := Aside0.mk (Below.refl w.heap.size w)
  have H : ((metrolablaw47_Pair.f).bind fun t173 => ((gauge_Design.f k t173 2 3).bind fun bt176 => (if bt176.2 = 0 then (if (bt176.1.length : Int) = 2 then (if 0 < (bt176.1.length : Int) then (if (!(((rd_T104 bt176.1 0).f2.f0) == 94) || (!(((rd_T104 bt176.1 0).f2.f1) == 97))) = true then (metrolablaw47_awake.j0 k t173 bt176.1 true) else (if (rd_T104 bt176.1 0).f1 = true then (metrolablaw47_awake.j0 k t173 bt176.1 true) else (if 1 < (bt176.1.length : Int) then (if (!(((rd_T104 bt176.1 1).f2.f0) == 59) || (!(((rd_T104 bt176.1 1).f2.f1) == 62))) = true then (metrolablaw47_awake.j0 k t173 bt176.1 true) else (metrolablaw47_awake.j0 k t173 bt176.1 (!((rd_T104 bt176.1 1).f1)))) else (none)))) else (none)) else (metrolablaw47_awake.j0 k t173 bt176.1 true)) else (metrolablaw47_awake.j0 k t173 bt176.1 true)))) = some r := h
  clear h
  replace H := Option.bind_eq_some_iff.mp H
  obtain ⟨t173, A10, H⟩ := H
  replace H : ((gauge_Design.f k t173 2 3).bind fun bt176 => (if bt176.2 = 0 then (if (bt176.1.length : Int) = 2 then (if 0 < (bt176.1.length : Int) then (if (!(((rd_T104 bt176.1 0).f2.f0) == 94) || (!(((rd_T104 bt176.1 0).f2.f1) == 97))) = true then (metrolablaw47_awake.j0 k t173 bt176.1 true) else (if (rd_T104 bt176.1 0).f1 = true then (metrolablaw47_awake.j0 k t173 bt176.1 true) else (if 1 < (bt176.1.length : Int) then (if (!(((rd_T104 bt176.1 1).f2.f0) == 59) || (!(((rd_T104 bt176.1 1).f2.f1) == 62))) = true then (metrolablaw47_awake.j0 k t173 bt176.1 true) else (metrolablaw47_awake.j0 k t173 bt176.1 (!((rd_T104 bt176.1 1).f1)))) else (none)))) else (none)) else (metrolablaw47_awake.j0 k t173 bt176.1 true)) else (metrolablaw47_awake.j0 k t173 bt176.1 true))) = some r := H
  have A1 := Aside0.mk A10
  clear A10
  replace H := Option.bind_eq_some_iff.mp H
  obtain ⟨⟨t176, t179⟩, A20, H⟩ := H
  replace H : (if t179 = 0 then (if (t176.length : Int) = 2 then (if 0 < (t176.length : Int) then (if (!(((rd_T104 t176 0).f2.f0) == 94) || (!(((rd_T104 t176 0).f2.f1) == 97))) = true then (metrolablaw47_awake.j0 k t173 t176 true) else (if (rd_T104 t176 0).f1 = true then (metrolablaw47_awake.j0 k t173 t176 true) else (if 1 < (t176.length : Int) then (if (!(((rd_T104 t176 1).f2.f0) == 59) || (!(((rd_T104 t176 1).f2.f1) == 62))) = true then (metrolablaw47_awake.j0 k t173 t176 true) else (metrolablaw47_awake.j0 k t173 t176 (!((rd_T104 t176 1).f1)))) else (none)))) else (none)) else (metrolablaw47_awake.j0 k t173 t176 true)) else (metrolablaw47_awake.j0 k t173 t176 true)) = some r := H
  have A2 := Aside0.mk A20
  clear A20
  have HC3 := Aside0.mk H
  clear H
  go_enter Tryd.func30, Tryd.ntmps30
  go_upto_region 3 with (first | ((with_reducible refine gate_callee (f := 79) rfl ?_); refine goesL_ (some 8) rfl rfl Tryd.func79 (by kernel_rfl) rfl #[] rfl (by (try simp only [List.map_toArray, List.map_cons, List.map_nil]); first | done | rfl | (simp only [List.length_drop, List.length_take]; rfl)) ?_; (with_reducible refine (metrolablaw47_Pair.calls  t173 _ A1.out).mono ?_); rintro e w4 ⟨v174, rfl, ho0, hb⟩; refine ⟨_, rfl, ?_⟩; have n0_ := Aside0.mk (Kd.R_lower ho0 (below_size (by repeat (first | (with_reducible first | exact HB.out | apply below_alloc | apply pw_below_drewN | apply below_drew1) | exact HB.out)))); have n1_ := Aside0.mk (below_step (by repeat (first | (with_reducible first | exact HB.out | apply below_alloc | apply pw_below_drewN | apply below_drew1) | exact HB.out)) hb); clear HB; have HO175 := n0_; have HB := n1_; clear n0_ n1_; (try clear hb); (try clear hb2); (try clear hk); (try clear hi); (try clear ho0); obtain ⟨Ao5, co5, eo5⟩ := Kd.R_slice HO175.out; subst eo5) | ((with_reducible refine gate_callee (f := 31) rfl ?_); refine goesL_ (some 12) rfl rfl Tryd.func31 (by kernel_rfl) rfl #[.slice Ao5 t173.length co5, .agg #[.int .i64 2, .int .i64 3]] rfl (by (try simp only [List.map_toArray, List.map_cons, List.map_nil]); first | done | rfl | (simp only [List.length_drop, List.length_take]; rfl)) ?_; (with_reducible refine (gauge_Design.calls k _ _ t173 2 3 t176 t179 _ ?side1 ?side2 A2.out (by exact sig_below HS.out (by repeat (first | (with_reducible first | exact HB.out | apply below_alloc | apply pw_below_drewN | apply below_drew1 | fail) | exact HB.out)))).mono ?_); (case side1 => repeat (first | exact (Kd.R_reads' HO175.out).2.2 | (with_reducible refine Kd.C_alloc ?_ _) | (with_reducible refine Kd.C_drewN ?_ _) | (with_reducible refine Kd.C_drew ?_))); (case side2 => exact (Kd.R_reads' HO175.out).2.1); rintro e w6 ⟨v177, rfl, ho0, hb⟩; refine ⟨_, rfl, ?_⟩; have n0_ := Aside0.mk (Kd.R_below (by (with_reducible repeat (first | apply Kd.R_alloc | apply Kd.R_drewN | apply Kd.R_drew)); exact HO175.out) hb); have n1_ := Aside0.mk (Kd.R_lower ho0 (below_size (by repeat (first | (with_reducible first | exact HB.out | apply below_alloc | apply pw_below_drewN | apply below_drew1) | exact HB.out)))); have n2_ := Aside0.mk (below_step (by repeat (first | (with_reducible first | exact HB.out | apply below_alloc | apply pw_below_drewN | apply below_drew1) | exact HB.out)) hb); clear HO175; clear HB; have HO175 := n0_; have HO178 := n1_; have HB := n2_; clear n0_ n1_ n2_; (try clear hb); (try clear hb2); (try clear hk); (try clear hi); (try clear ho0)))
  (try simp only [Act.put, List.setIfInBounds_toArray, List.set_cons_zero, List.set_cons_succ])
  go_cut [50] (fun v50 wc => ∃ (kq : Nat) (x50_2 : Bool), v50 = .bool x50_2 ∧ Aside0 (metrolablaw47_awake.j0 kq t173 t176 x50_2 = some r) ∧ Aside0 (kq ≤ k) ∧ Aside0 (Kd.R k27 27 wc w.heap.size (fun _ => True) (.slice Ao5 t173.length co5) t173) ∧ Aside0 (Kd.R k104 104 wc w.heap.size (fun _ => True) v177 t176) ∧ Aside0 (Below w.heap.size w wc))
  case first =>
    have H := HC3.out
    clear HC3
    by_cases c7 : t179 = 0
    · rw [if_pos c7] at H
      have c7b0 : (t179 == 0) = true := beq_iff_eq.mpr c7
      have c7b1 : (t179 != 0) = false := bne_eq_false_iff_eq.mpr c7
      clear c7
      (first | rw [c7b0] | (simp only [i64_w, i32_w]; rw [c7b0]) | skip)
      by_cases c8 : (t176.length : Int) = 2
      · rw [if_pos c8] at H
        have c8b0 : ((t176.length : Int) == 2) = true := beq_iff_eq.mpr c8
        have c8b1 : ((t176.length : Int) != 2) = false := bne_eq_false_iff_eq.mpr c8
        clear c8
        by_cases c9 : 0 < (t176.length : Int)
        · rw [if_pos c9] at H
          have c9b0 : decide (0 < (t176.length : Int)) = true := decide_eq_true c9
          have c9b1 : decide (0 < t176.length) = true := decide_eq_true (by omega)
          clear c9
          by_cases c10 : (!(((rd_T104 t176 0).f2.f0) == 94) || (!(((rd_T104 t176 0).f2.f1) == 97))) = true
          · rw [if_pos c10] at H
            have c10b0 : (!(((rd_T104 t176 0).f2.f0) == 94) || (!(((rd_T104 t176 0).f2.f1) == 97))) = true := c10
            clear c10
            have H' := Aside0.mk H
            clear H
            obtain ⟨Ao11, co11, eo11⟩ := Kd.R_slice HO178.out
            subst eo11
            have p180 : 0 ≤ (0 : Int) := (by omega)
            have q180 : 0 < (t176.length : Int) := of_decide_eq_true (by first | (with_reducible assumption) | assumption)
            obtain ⟨ad180, e180, hx180_0, hx180_1, hx180_2, hx180_3, hx180_4⟩ := at_T104 (Kd.R_reads' HO178.out).2.2 0 p180 q180
            cases e180
            have qi180 : (0 < t176.length) = True := eq_true (by omega)
            (try rw [show ((0 : Int)).toNat = 0 from rfl] at hx180_0)
            (try rw [show 0 * 5 = 0 from rfl] at hx180_0)
            (try rw [Addr.add_zero'] at hx180_0)
            (try rw [show ((0 : Int)).toNat = 0 from rfl] at hx180_1)
            (try rw [show 0 * 5 = 0 from rfl] at hx180_1)
            (try rw [Addr.add_zero'] at hx180_1)
            (try rw [show ((0 : Int)).toNat = 0 from rfl] at hx180_2)
            (try rw [show 0 * 5 = 0 from rfl] at hx180_2)
            (try rw [Addr.add_zero'] at hx180_2)
            (try rw [show ((0 : Int)).toNat = 0 from rfl] at hx180_3)
            (try rw [show 0 * 5 = 0 from rfl] at hx180_3)
            (try rw [Addr.add_zero'] at hx180_3)
            (try rw [show ((0 : Int)).toNat = 0 from rfl] at hx180_4)
            (try rw [show 0 * 5 = 0 from rfl] at hx180_4)
            (try rw [Addr.add_zero'] at hx180_4)
            replace p180 := eq_true p180
            replace q180 := eq_true q180
            go_wp2
            go_meet
            case rel => exact ⟨_, (true), (by first | rfl | (simp; done) | (simp [*]; done)), H', ⟨by first | omega | exact Nat.le_refl _⟩, ⟨by (with_reducible repeat (first | apply Kd.R_alloc | apply Kd.R_drewN | apply Kd.R_drew)); exact HO175.out⟩, ⟨by (with_reducible repeat (first | apply Kd.R_alloc | apply Kd.R_drewN | apply Kd.R_drew)); exact HO178.out⟩, ⟨by repeat (first | (with_reducible first | exact HB.out | apply below_alloc | apply pw_below_drewN | apply below_drew1) | exact HB.out)⟩⟩
          · rw [if_neg c10] at H
            have c10b0 : (!(((rd_T104 t176 0).f2.f0) == 94) || (!(((rd_T104 t176 0).f2.f1) == 97))) = false := by simpa using c10
            clear c10
            obtain ⟨bq12, hbq12⟩ : ∃ b_ : Bool, b_ = ((rd_T104 t176 0).f1) := ⟨_, rfl⟩
            replace H : (if bq12 = true then (metrolablaw47_awake.j0 k t173 t176 true) else (if 1 < (t176.length : Int) then (if (!(((rd_T104 t176 1).f2.f0) == 59) || (!(((rd_T104 t176 1).f2.f1) == 62))) = true then (metrolablaw47_awake.j0 k t173 t176 true) else (metrolablaw47_awake.j0 k t173 t176 (!((rd_T104 t176 1).f1)))) else (none))) = some r := by rw [← hbq12] at H; exact H
            have Nbq12 := Aside0.mk hbq12
            clear hbq12
            by_cases c13 : bq12 = true
            · subst c13
              have H1 : (metrolablaw47_awake.j0 k t173 t176 true) = some r := by rw [if_pos rfl] at H; exact H
              clear H
              have H := H1
              clear H1
              have H' := Aside0.mk H
              clear H
              obtain ⟨Ao14, co14, eo14⟩ := Kd.R_slice HO178.out
              subst eo14
              have p180 : 0 ≤ (0 : Int) := (by omega)
              have q180 : 0 < (t176.length : Int) := of_decide_eq_true (by first | (with_reducible assumption) | assumption)
              obtain ⟨ad180, e180, hx180_0, hx180_1, hx180_2, hx180_3, hx180_4⟩ := at_T104 (Kd.R_reads' HO178.out).2.2 0 p180 q180
              (try rw [← Nbq12.out] at hx180_2)
              cases e180
              have qi180 : (0 < t176.length) = True := eq_true (by omega)
              (try rw [show ((0 : Int)).toNat = 0 from rfl] at hx180_0)
              (try rw [show 0 * 5 = 0 from rfl] at hx180_0)
              (try rw [Addr.add_zero'] at hx180_0)
              (try rw [show ((0 : Int)).toNat = 0 from rfl] at hx180_1)
              (try rw [show 0 * 5 = 0 from rfl] at hx180_1)
              (try rw [Addr.add_zero'] at hx180_1)
              (try rw [show ((0 : Int)).toNat = 0 from rfl] at hx180_2)
              (try rw [show 0 * 5 = 0 from rfl] at hx180_2)
              (try rw [Addr.add_zero'] at hx180_2)
              (try rw [show ((0 : Int)).toNat = 0 from rfl] at hx180_3)
              (try rw [show 0 * 5 = 0 from rfl] at hx180_3)
              (try rw [Addr.add_zero'] at hx180_3)
              (try rw [show ((0 : Int)).toNat = 0 from rfl] at hx180_4)
              (try rw [show 0 * 5 = 0 from rfl] at hx180_4)
              (try rw [Addr.add_zero'] at hx180_4)
              replace p180 := eq_true p180
              replace q180 := eq_true q180
              have p181 : 0 ≤ (0 : Int) := (by omega)
              have q181 : 0 < (t176.length : Int) := of_decide_eq_true (by first | (with_reducible assumption) | assumption)
              obtain ⟨ad181, e181, hx181_0, hx181_1, hx181_2, hx181_3, hx181_4⟩ := at_T104 (Kd.R_reads' HO178.out).2.2 0 p181 q181
              (try rw [← Nbq12.out] at hx181_2)
              obtain rfl : ad180 = ad181 := (by injection e181)
              have qi181 : (0 < t176.length) = True := eq_true (by omega)
              (try rw [show ((0 : Int)).toNat = 0 from rfl] at hx181_0)
              (try rw [show 0 * 5 = 0 from rfl] at hx181_0)
              (try rw [Addr.add_zero'] at hx181_0)
              (try rw [show ((0 : Int)).toNat = 0 from rfl] at hx181_1)
              (try rw [show 0 * 5 = 0 from rfl] at hx181_1)
              (try rw [Addr.add_zero'] at hx181_1)
              (try rw [show ((0 : Int)).toNat = 0 from rfl] at hx181_2)
              (try rw [show 0 * 5 = 0 from rfl] at hx181_2)
              (try rw [Addr.add_zero'] at hx181_2)
              (try rw [show ((0 : Int)).toNat = 0 from rfl] at hx181_3)
              (try rw [show 0 * 5 = 0 from rfl] at hx181_3)
              (try rw [Addr.add_zero'] at hx181_3)
              (try rw [show ((0 : Int)).toNat = 0 from rfl] at hx181_4)
              (try rw [show 0 * 5 = 0 from rfl] at hx181_4)
              (try rw [Addr.add_zero'] at hx181_4)
              replace p181 := eq_true p181
              replace q181 := eq_true q181
              go_wp2
              go_meet
              case rel => exact ⟨_, (true), (by first | rfl | (simp; done) | (simp [*]; done)), H', ⟨by first | omega | exact Nat.le_refl _⟩, ⟨by (with_reducible repeat (first | apply Kd.R_alloc | apply Kd.R_drewN | apply Kd.R_drew)); exact HO175.out⟩, ⟨by (with_reducible repeat (first | apply Kd.R_alloc | apply Kd.R_drewN | apply Kd.R_drew)); exact HO178.out⟩, ⟨by repeat (first | (with_reducible first | exact HB.out | apply below_alloc | apply pw_below_drewN | apply below_drew1) | exact HB.out)⟩⟩
            · replace c13 := Bool.eq_false_iff.mpr c13
              subst c13
              have H1 : (if 1 < (t176.length : Int) then (if (!(((rd_T104 t176 1).f2.f0) == 59) || (!(((rd_T104 t176 1).f2.f1) == 62))) = true then (metrolablaw47_awake.j0 k t173 t176 true) else (metrolablaw47_awake.j0 k t173 t176 (!((rd_T104 t176 1).f1)))) else (none)) = some r := by rw [if_neg (show ¬ (false = true) by decide)] at H; exact H
              clear H
              have H := H1
              clear H1
              by_cases c15 : 1 < (t176.length : Int)
              · rw [if_pos c15] at H
                have c15b0 : decide (1 < (t176.length : Int)) = true := decide_eq_true c15
                have c15b1 : decide (1 < t176.length) = true := decide_eq_true (by omega)
                clear c15
                by_cases c16 : (!(((rd_T104 t176 1).f2.f0) == 59) || (!(((rd_T104 t176 1).f2.f1) == 62))) = true
                · rw [if_pos c16] at H
                  have c16b0 : (!(((rd_T104 t176 1).f2.f0) == 59) || (!(((rd_T104 t176 1).f2.f1) == 62))) = true := c16
                  clear c16
                  have H' := Aside0.mk H
                  clear H
                  obtain ⟨Ao17, co17, eo17⟩ := Kd.R_slice HO178.out
                  subst eo17
                  have p180 : 0 ≤ (0 : Int) := (by omega)
                  have q180 : 0 < (t176.length : Int) := of_decide_eq_true (by first | (with_reducible assumption) | assumption)
                  obtain ⟨ad180, e180, hx180_0, hx180_1, hx180_2, hx180_3, hx180_4⟩ := at_T104 (Kd.R_reads' HO178.out).2.2 0 p180 q180
                  (try rw [← Nbq12.out] at hx180_2)
                  cases e180
                  have qi180 : (0 < t176.length) = True := eq_true (by omega)
                  (try rw [show ((0 : Int)).toNat = 0 from rfl] at hx180_0)
                  (try rw [show 0 * 5 = 0 from rfl] at hx180_0)
                  (try rw [Addr.add_zero'] at hx180_0)
                  (try rw [show ((0 : Int)).toNat = 0 from rfl] at hx180_1)
                  (try rw [show 0 * 5 = 0 from rfl] at hx180_1)
                  (try rw [Addr.add_zero'] at hx180_1)
                  (try rw [show ((0 : Int)).toNat = 0 from rfl] at hx180_2)
                  (try rw [show 0 * 5 = 0 from rfl] at hx180_2)
                  (try rw [Addr.add_zero'] at hx180_2)
                  (try rw [show ((0 : Int)).toNat = 0 from rfl] at hx180_3)
                  (try rw [show 0 * 5 = 0 from rfl] at hx180_3)
                  (try rw [Addr.add_zero'] at hx180_3)
                  (try rw [show ((0 : Int)).toNat = 0 from rfl] at hx180_4)
                  (try rw [show 0 * 5 = 0 from rfl] at hx180_4)
                  (try rw [Addr.add_zero'] at hx180_4)
                  replace p180 := eq_true p180
                  replace q180 := eq_true q180
                  have p181 : 0 ≤ (0 : Int) := (by omega)
                  have q181 : 0 < (t176.length : Int) := of_decide_eq_true (by first | (with_reducible assumption) | assumption)
                  obtain ⟨ad181, e181, hx181_0, hx181_1, hx181_2, hx181_3, hx181_4⟩ := at_T104 (Kd.R_reads' HO178.out).2.2 0 p181 q181
                  (try rw [← Nbq12.out] at hx181_2)
                  obtain rfl : ad180 = ad181 := (by injection e181)
                  have qi181 : (0 < t176.length) = True := eq_true (by omega)
                  (try rw [show ((0 : Int)).toNat = 0 from rfl] at hx181_0)
                  (try rw [show 0 * 5 = 0 from rfl] at hx181_0)
                  (try rw [Addr.add_zero'] at hx181_0)
                  (try rw [show ((0 : Int)).toNat = 0 from rfl] at hx181_1)
                  (try rw [show 0 * 5 = 0 from rfl] at hx181_1)
                  (try rw [Addr.add_zero'] at hx181_1)
                  (try rw [show ((0 : Int)).toNat = 0 from rfl] at hx181_2)
                  (try rw [show 0 * 5 = 0 from rfl] at hx181_2)
                  (try rw [Addr.add_zero'] at hx181_2)
                  (try rw [show ((0 : Int)).toNat = 0 from rfl] at hx181_3)
                  (try rw [show 0 * 5 = 0 from rfl] at hx181_3)
                  (try rw [Addr.add_zero'] at hx181_3)
                  (try rw [show ((0 : Int)).toNat = 0 from rfl] at hx181_4)
                  (try rw [show 0 * 5 = 0 from rfl] at hx181_4)
                  (try rw [Addr.add_zero'] at hx181_4)
                  replace p181 := eq_true p181
                  replace q181 := eq_true q181
                  have p182 : 0 ≤ (1 : Int) := (by omega)
                  have q182 : 1 < (t176.length : Int) := of_decide_eq_true (by first | (with_reducible assumption) | assumption)
                  obtain ⟨ad182, e182, hx182_0, hx182_1, hx182_2, hx182_3, hx182_4⟩ := at_T104 (Kd.R_reads' HO178.out).2.2 1 p182 q182
                  (try rw [← Nbq12.out] at hx182_2)
                  obtain rfl : ad180 = ad182 := (by injection e182)
                  (try simp only [show (1 : Int).toNat = 1 from rfl, Nat.reduceMul, Nat.reduceEqDiff, Go.Addr.add, ↓reduceIte] at hx182_0)
                  (try simp only [show (1 : Int).toNat = 1 from rfl, Nat.reduceMul, Nat.reduceEqDiff, Go.Addr.add, ↓reduceIte] at hx182_1)
                  (try simp only [show (1 : Int).toNat = 1 from rfl, Nat.reduceMul, Nat.reduceEqDiff, Go.Addr.add, ↓reduceIte] at hx182_2)
                  (try simp only [show (1 : Int).toNat = 1 from rfl, Nat.reduceMul, Nat.reduceEqDiff, Go.Addr.add, ↓reduceIte] at hx182_3)
                  (try simp only [show (1 : Int).toNat = 1 from rfl, Nat.reduceMul, Nat.reduceEqDiff, Go.Addr.add, ↓reduceIte] at hx182_4)
                  have qi182 : (1 < t176.length) = True := eq_true (by omega)
                  (try rw [show ((1 : Int)).toNat = 1 from rfl] at hx182_0)
                  (try rw [show 1 * 5 = 5 from rfl] at hx182_0)
                  (try rw [show ((1 : Int)).toNat = 1 from rfl] at hx182_1)
                  (try rw [show 1 * 5 = 5 from rfl] at hx182_1)
                  (try rw [show ((1 : Int)).toNat = 1 from rfl] at hx182_2)
                  (try rw [show 1 * 5 = 5 from rfl] at hx182_2)
                  (try rw [show ((1 : Int)).toNat = 1 from rfl] at hx182_3)
                  (try rw [show 1 * 5 = 5 from rfl] at hx182_3)
                  (try rw [show ((1 : Int)).toNat = 1 from rfl] at hx182_4)
                  (try rw [show 1 * 5 = 5 from rfl] at hx182_4)
                  replace p182 := eq_true p182
                  replace q182 := eq_true q182
                  go_wp2
                  go_meet
                  case rel => exact ⟨_, (true), (by first | rfl | (simp; done) | (simp [*]; done)), H', ⟨by first | omega | exact Nat.le_refl _⟩, ⟨by (with_reducible repeat (first | apply Kd.R_alloc | apply Kd.R_drewN | apply Kd.R_drew)); exact HO175.out⟩, ⟨by (with_reducible repeat (first | apply Kd.R_alloc | apply Kd.R_drewN | apply Kd.R_drew)); exact HO178.out⟩, ⟨by repeat (first | (with_reducible first | exact HB.out | apply below_alloc | apply pw_below_drewN | apply below_drew1) | exact HB.out)⟩⟩
                · rw [if_neg c16] at H
                  have c16b0 : (!(((rd_T104 t176 1).f2.f0) == 59) || (!(((rd_T104 t176 1).f2.f1) == 62))) = false := by simpa using c16
                  clear c16
                  have H' := Aside0.mk H
                  clear H
                  obtain ⟨Ao18, co18, eo18⟩ := Kd.R_slice HO178.out
                  subst eo18
                  have p180 : 0 ≤ (0 : Int) := (by omega)
                  have q180 : 0 < (t176.length : Int) := of_decide_eq_true (by first | (with_reducible assumption) | assumption)
                  obtain ⟨ad180, e180, hx180_0, hx180_1, hx180_2, hx180_3, hx180_4⟩ := at_T104 (Kd.R_reads' HO178.out).2.2 0 p180 q180
                  (try rw [← Nbq12.out] at hx180_2)
                  cases e180
                  have qi180 : (0 < t176.length) = True := eq_true (by omega)
                  (try rw [show ((0 : Int)).toNat = 0 from rfl] at hx180_0)
                  (try rw [show 0 * 5 = 0 from rfl] at hx180_0)
                  (try rw [Addr.add_zero'] at hx180_0)
                  (try rw [show ((0 : Int)).toNat = 0 from rfl] at hx180_1)
                  (try rw [show 0 * 5 = 0 from rfl] at hx180_1)
                  (try rw [Addr.add_zero'] at hx180_1)
                  (try rw [show ((0 : Int)).toNat = 0 from rfl] at hx180_2)
                  (try rw [show 0 * 5 = 0 from rfl] at hx180_2)
                  (try rw [Addr.add_zero'] at hx180_2)
                  (try rw [show ((0 : Int)).toNat = 0 from rfl] at hx180_3)
                  (try rw [show 0 * 5 = 0 from rfl] at hx180_3)
                  (try rw [Addr.add_zero'] at hx180_3)
                  (try rw [show ((0 : Int)).toNat = 0 from rfl] at hx180_4)
                  (try rw [show 0 * 5 = 0 from rfl] at hx180_4)
                  (try rw [Addr.add_zero'] at hx180_4)
                  replace p180 := eq_true p180
                  replace q180 := eq_true q180
                  have p181 : 0 ≤ (0 : Int) := (by omega)
                  have q181 : 0 < (t176.length : Int) := of_decide_eq_true (by first | (with_reducible assumption) | assumption)
                  obtain ⟨ad181, e181, hx181_0, hx181_1, hx181_2, hx181_3, hx181_4⟩ := at_T104 (Kd.R_reads' HO178.out).2.2 0 p181 q181
                  (try rw [← Nbq12.out] at hx181_2)
                  obtain rfl : ad180 = ad181 := (by injection e181)
                  have qi181 : (0 < t176.length) = True := eq_true (by omega)
                  (try rw [show ((0 : Int)).toNat = 0 from rfl] at hx181_0)
                  (try rw [show 0 * 5 = 0 from rfl] at hx181_0)
                  (try rw [Addr.add_zero'] at hx181_0)
                  (try rw [show ((0 : Int)).toNat = 0 from rfl] at hx181_1)
                  (try rw [show 0 * 5 = 0 from rfl] at hx181_1)
                  (try rw [Addr.add_zero'] at hx181_1)
                  (try rw [show ((0 : Int)).toNat = 0 from rfl] at hx181_2)
                  (try rw [show 0 * 5 = 0 from rfl] at hx181_2)
                  (try rw [Addr.add_zero'] at hx181_2)
                  (try rw [show ((0 : Int)).toNat = 0 from rfl] at hx181_3)
                  (try rw [show 0 * 5 = 0 from rfl] at hx181_3)
                  (try rw [Addr.add_zero'] at hx181_3)
                  (try rw [show ((0 : Int)).toNat = 0 from rfl] at hx181_4)
                  (try rw [show 0 * 5 = 0 from rfl] at hx181_4)
                  (try rw [Addr.add_zero'] at hx181_4)
                  replace p181 := eq_true p181
                  replace q181 := eq_true q181
                  have p182 : 0 ≤ (1 : Int) := (by omega)
                  have q182 : 1 < (t176.length : Int) := of_decide_eq_true (by first | (with_reducible assumption) | assumption)
                  obtain ⟨ad182, e182, hx182_0, hx182_1, hx182_2, hx182_3, hx182_4⟩ := at_T104 (Kd.R_reads' HO178.out).2.2 1 p182 q182
                  (try rw [← Nbq12.out] at hx182_2)
                  obtain rfl : ad180 = ad182 := (by injection e182)
                  (try simp only [show (1 : Int).toNat = 1 from rfl, Nat.reduceMul, Nat.reduceEqDiff, Go.Addr.add, ↓reduceIte] at hx182_0)
                  (try simp only [show (1 : Int).toNat = 1 from rfl, Nat.reduceMul, Nat.reduceEqDiff, Go.Addr.add, ↓reduceIte] at hx182_1)
                  (try simp only [show (1 : Int).toNat = 1 from rfl, Nat.reduceMul, Nat.reduceEqDiff, Go.Addr.add, ↓reduceIte] at hx182_2)
                  (try simp only [show (1 : Int).toNat = 1 from rfl, Nat.reduceMul, Nat.reduceEqDiff, Go.Addr.add, ↓reduceIte] at hx182_3)
                  (try simp only [show (1 : Int).toNat = 1 from rfl, Nat.reduceMul, Nat.reduceEqDiff, Go.Addr.add, ↓reduceIte] at hx182_4)
                  have qi182 : (1 < t176.length) = True := eq_true (by omega)
                  (try rw [show ((1 : Int)).toNat = 1 from rfl] at hx182_0)
                  (try rw [show 1 * 5 = 5 from rfl] at hx182_0)
                  (try rw [show ((1 : Int)).toNat = 1 from rfl] at hx182_1)
                  (try rw [show 1 * 5 = 5 from rfl] at hx182_1)
                  (try rw [show ((1 : Int)).toNat = 1 from rfl] at hx182_2)
                  (try rw [show 1 * 5 = 5 from rfl] at hx182_2)
                  (try rw [show ((1 : Int)).toNat = 1 from rfl] at hx182_3)
                  (try rw [show 1 * 5 = 5 from rfl] at hx182_3)
                  (try rw [show ((1 : Int)).toNat = 1 from rfl] at hx182_4)
                  (try rw [show 1 * 5 = 5 from rfl] at hx182_4)
                  replace p182 := eq_true p182
                  replace q182 := eq_true q182
                  have p183 : 0 ≤ (1 : Int) := (by omega)
                  have q183 : 1 < (t176.length : Int) := of_decide_eq_true (by first | (with_reducible assumption) | assumption)
                  obtain ⟨ad183, e183, hx183_0, hx183_1, hx183_2, hx183_3, hx183_4⟩ := at_T104 (Kd.R_reads' HO178.out).2.2 1 p183 q183
                  (try rw [← Nbq12.out] at hx183_2)
                  obtain rfl : ad180 = ad183 := (by injection e183)
                  (try simp only [show (1 : Int).toNat = 1 from rfl, Nat.reduceMul, Nat.reduceEqDiff, Go.Addr.add, ↓reduceIte] at hx183_0)
                  (try simp only [show (1 : Int).toNat = 1 from rfl, Nat.reduceMul, Nat.reduceEqDiff, Go.Addr.add, ↓reduceIte] at hx183_1)
                  (try simp only [show (1 : Int).toNat = 1 from rfl, Nat.reduceMul, Nat.reduceEqDiff, Go.Addr.add, ↓reduceIte] at hx183_2)
                  (try simp only [show (1 : Int).toNat = 1 from rfl, Nat.reduceMul, Nat.reduceEqDiff, Go.Addr.add, ↓reduceIte] at hx183_3)
                  (try simp only [show (1 : Int).toNat = 1 from rfl, Nat.reduceMul, Nat.reduceEqDiff, Go.Addr.add, ↓reduceIte] at hx183_4)
                  have qi183 : (1 < t176.length) = True := eq_true (by omega)
                  (try rw [show ((1 : Int)).toNat = 1 from rfl] at hx183_0)
                  (try rw [show 1 * 5 = 5 from rfl] at hx183_0)
                  (try rw [show ((1 : Int)).toNat = 1 from rfl] at hx183_1)
                  (try rw [show 1 * 5 = 5 from rfl] at hx183_1)
                  (try rw [show ((1 : Int)).toNat = 1 from rfl] at hx183_2)
                  (try rw [show 1 * 5 = 5 from rfl] at hx183_2)
                  (try rw [show ((1 : Int)).toNat = 1 from rfl] at hx183_3)
                  (try rw [show 1 * 5 = 5 from rfl] at hx183_3)
                  (try rw [show ((1 : Int)).toNat = 1 from rfl] at hx183_4)
                  (try rw [show 1 * 5 = 5 from rfl] at hx183_4)
                  replace p183 := eq_true p183
                  replace q183 := eq_true q183
                  go_wp2
                  go_meet
                  case rel => exact ⟨_, (!((rd_T104 t176 1).f1)), (by first | rfl | (simp; done) | (simp [*]; done)), H', ⟨by first | omega | exact Nat.le_refl _⟩, ⟨by (with_reducible repeat (first | apply Kd.R_alloc | apply Kd.R_drewN | apply Kd.R_drew)); exact HO175.out⟩, ⟨by (with_reducible repeat (first | apply Kd.R_alloc | apply Kd.R_drewN | apply Kd.R_drew)); exact HO178.out⟩, ⟨by repeat (first | (with_reducible first | exact HB.out | apply below_alloc | apply pw_below_drewN | apply below_drew1) | exact HB.out)⟩⟩
              · rw [if_neg c15] at H
                exact absurd H (by simp)
        · rw [if_neg c9] at H
          exact absurd H (by simp)
      · rw [if_neg c8] at H
        have c8b0 : ((t176.length : Int) == 2) = false := beq_eq_false_iff_ne.mpr c8
        have c8b1 : ((t176.length : Int) != 2) = true := bne_iff_ne.mpr c8
        have H' := Aside0.mk H
        clear H
        obtain ⟨Ao19, co19, eo19⟩ := Kd.R_slice HO178.out
        subst eo19
        go_wp2
        go_meet
        case rel => exact ⟨_, (true), (by first | rfl | (simp; done) | (simp [*]; done)), H', ⟨by first | omega | exact Nat.le_refl _⟩, ⟨by (with_reducible repeat (first | apply Kd.R_alloc | apply Kd.R_drewN | apply Kd.R_drew)); exact HO175.out⟩, ⟨by (with_reducible repeat (first | apply Kd.R_alloc | apply Kd.R_drewN | apply Kd.R_drew)); exact HO178.out⟩, ⟨by repeat (first | (with_reducible first | exact HB.out | apply below_alloc | apply pw_below_drewN | apply below_drew1) | exact HB.out)⟩⟩
    · rw [if_neg c7] at H
      have c7b0 : (t179 == 0) = false := beq_eq_false_iff_ne.mpr c7
      have c7b1 : (t179 != 0) = true := bne_iff_ne.mpr c7
      (first | rw [c7b0] | (simp only [i64_w, i32_w]; rw [c7b0]) | skip)
      have H' := Aside0.mk H
      clear H
      go_wp2
      go_meet
      case rel => exact ⟨_, (true), (by first | rfl | (simp; done) | (simp [*]; done)), H', ⟨by first | omega | exact Nat.le_refl _⟩, ⟨by (with_reducible repeat (first | apply Kd.R_alloc | apply Kd.R_drewN | apply Kd.R_drew)); exact HO175.out⟩, ⟨by (with_reducible repeat (first | apply Kd.R_alloc | apply Kd.R_drewN | apply Kd.R_drew)); exact HO178.out⟩, ⟨by repeat (first | (with_reducible first | exact HB.out | apply below_alloc | apply pw_below_drewN | apply below_drew1) | exact HB.out)⟩⟩
  case rest =>
    clear HC3
    try clear c1
    try clear p1
    try clear q1
    try clear hx1
    try clear qi1
    try clear p2
    try clear c3
    try clear c7
    try clear c7b0
    try clear c7b1
    try clear c8
    try clear c8b0
    try clear c8b1
    try clear c9
    try clear c9b0
    try clear c9b1
    try clear c10
    try clear c10b0
    try clear q12
    try clear c13
    try clear c15
    try clear c15b0
    try clear c15b1
    try clear c16
    try clear c16b0
    try clear p18
    try clear q18
    try clear hx18
    try clear qi18
    try clear hx180_0
    try clear hx180_1
    try clear hx180_2
    try clear hx180_3
    try clear hx180_4
    try clear hx181_0
    try clear hx181_1
    try clear hx181_2
    try clear hx181_3
    try clear hx181_4
    try clear hx182_0
    try clear hx182_1
    try clear hx182_2
    try clear hx182_3
    try clear hx182_4
    try clear hx183_0
    try clear hx183_1
    try clear hx183_2
    try clear hx183_3
    try clear hx183_4
    try clear p180
    try clear p181
    try clear p182
    try clear p183
    try clear q180
    try clear q181
    try clear q182
    try clear q183
    obtain ⟨kq, x50_2, rfl, HA, HJ2, HO_1, HO_2, HB⟩ := hcut
    cases kq with
    | zero => exact absurd HA.out (by simp [metrolablaw47_awake.j0])
    | succ kj2 =>
      have H := HA.out
      clear HA
      simp only [metrolablaw47_awake.j0] at H
      by_cases c20 : x50_2 = true
      · subst c20
        have H1 : (some false) = some r := by rw [if_pos rfl] at H; exact H
        clear H
        have H := H1
        clear H1
        obtain rfl := Option.some.inj H
        go_wp2
        go_ret
        exact ⟨by first | rfl | (simp [errW_none, errW_some] <;> rfl) | (simp [*, errW_none, errW_some] <;> rfl), by repeat (first | (with_reducible first | exact HB.out | apply below_alloc | apply pw_below_drewN | apply below_drew1) | exact HB.out)⟩
      · replace c20 := Bool.eq_false_iff.mpr c20
        subst c20
        have H1 : ((gauge_Loss.f kj2 t173 t176).bind fun bt184 => ((gauge_Made.f kj2 t176 true).bind fun bt186 => (if bt184.2 = 0 then (if bt186.2 = 0 then (if bt184.1 = 5 then ((gauge_Safe.f kj2 t173 t176).bind fun t190 => (if t190 = 0 then (metrolablaw47_awake.j1 kj2 t173 bt186.1 ((bt186.1.length : Int) != 2)) else (metrolablaw47_awake.j1 kj2 t173 bt186.1 true))) else (metrolablaw47_awake.j1 kj2 t173 bt186.1 true)) else (metrolablaw47_awake.j1 kj2 t173 bt186.1 true)) else (metrolablaw47_awake.j1 kj2 t173 bt186.1 true)))) = some r := by rw [if_neg (show ¬ (false = true) by decide)] at H; exact H
        clear H
        have H := H1
        clear H1
        replace H := Option.bind_eq_some_iff.mp H
        obtain ⟨⟨t184, t185⟩, A210, H⟩ := H
        replace H : ((gauge_Made.f kj2 t176 true).bind fun bt186 => (if t185 = 0 then (if bt186.2 = 0 then (if t184 = 5 then ((gauge_Safe.f kj2 t173 t176).bind fun t190 => (if t190 = 0 then (metrolablaw47_awake.j1 kj2 t173 bt186.1 ((bt186.1.length : Int) != 2)) else (metrolablaw47_awake.j1 kj2 t173 bt186.1 true))) else (metrolablaw47_awake.j1 kj2 t173 bt186.1 true)) else (metrolablaw47_awake.j1 kj2 t173 bt186.1 true)) else (metrolablaw47_awake.j1 kj2 t173 bt186.1 true))) = some r := H
        have A21 := Aside0.mk A210
        clear A210
        replace H := Option.bind_eq_some_iff.mp H
        obtain ⟨⟨t186, t187⟩, A220, H⟩ := H
        replace H : (if t185 = 0 then (if t187 = 0 then (if t184 = 5 then ((gauge_Safe.f kj2 t173 t176).bind fun t190 => (if t190 = 0 then (metrolablaw47_awake.j1 kj2 t173 t186 ((t186.length : Int) != 2)) else (metrolablaw47_awake.j1 kj2 t173 t186 true))) else (metrolablaw47_awake.j1 kj2 t173 t186 true)) else (metrolablaw47_awake.j1 kj2 t173 t186 true)) else (metrolablaw47_awake.j1 kj2 t173 t186 true)) = some r := H
        have A22 := Aside0.mk A220
        clear A220
        have HC23 := Aside0.mk H
        clear H
        obtain ⟨Ao24, co24, eo24⟩ := Kd.R_slice HO_2.out
        subst eo24
        go_upto_region 7 with (first | ((with_reducible refine gate_callee (f := 32) rfl ?_); refine goesL_ (some 54) rfl rfl Tryd.func32 (by kernel_rfl) rfl #[.slice Ao5 t173.length co5, .slice Ao24 t176.length co24] rfl (by (try simp only [List.map_toArray, List.map_cons, List.map_nil]); first | done | rfl | (simp only [List.length_drop, List.length_take]; rfl)) ?_; (with_reducible refine (gauge_Loss.calls kj2 _ _ t173 _ _ t176 t184 t185 _ ?side1 ?side2 ?side3 ?side4 A21.out (by exact sig_below HS.out (by repeat (first | (with_reducible first | exact HB.out | apply below_alloc | apply pw_below_drewN | apply below_drew1 | fail) | exact HB.out)))).mono ?_); (case side1 => repeat (first | exact (Kd.R_reads' HO_1.out).2.2 | (with_reducible refine Kd.C_alloc ?_ _) | (with_reducible refine Kd.C_drewN ?_ _) | (with_reducible refine Kd.C_drew ?_))); (case side2 => exact (Kd.R_reads' HO_1.out).2.1); (case side3 => repeat (first | exact (Kd.R_reads' HO_2.out).2.2 | (with_reducible refine Kd.C_alloc ?_ _) | (with_reducible refine Kd.C_drewN ?_ _) | (with_reducible refine Kd.C_drew ?_))); (case side4 => exact (Kd.R_reads' HO_2.out).2.1); rintro e w25 ⟨rfl, hb⟩; refine ⟨_, rfl, ?_⟩; have n0_ := Aside0.mk (Kd.R_below (by (with_reducible repeat (first | apply Kd.R_alloc | apply Kd.R_drewN | apply Kd.R_drew)); exact HO_1.out) hb); have n1_ := Aside0.mk (Kd.R_below (by (with_reducible repeat (first | apply Kd.R_alloc | apply Kd.R_drewN | apply Kd.R_drew)); exact HO_2.out) hb); have n2_ := Aside0.mk (below_step (by repeat (first | (with_reducible first | exact HB.out | apply below_alloc | apply pw_below_drewN | apply below_drew1) | exact HB.out)) hb); clear HO_1; clear HO_2; clear HB; have HO_1 := n0_; have HO_2 := n1_; have HB := n2_; clear n0_ n1_ n2_; (try clear hb); (try clear hb2); (try clear hk); (try clear hi)) | ((with_reducible refine gate_callee (f := 34) rfl ?_); refine goesL_ (some 59) rfl rfl Tryd.func34 (by kernel_rfl) rfl #[.slice Ao24 t176.length co24, .bool true] rfl (by (try simp only [List.map_toArray, List.map_cons, List.map_nil]); first | done | rfl | (simp only [List.length_drop, List.length_take]; rfl)) ?_; (with_reducible refine (gauge_Made.calls kj2 _ _ t176 true t186 t187 _ ?side1 ?side2 A22.out (by exact sig_below HS.out (by repeat (first | (with_reducible first | exact HB.out | apply below_alloc | apply pw_below_drewN | apply below_drew1 | fail) | exact HB.out)))).mono ?_); (case side1 => repeat (first | exact (Kd.R_reads' HO_2.out).2.2 | (with_reducible refine Kd.C_alloc ?_ _) | (with_reducible refine Kd.C_drewN ?_ _) | (with_reducible refine Kd.C_drew ?_))); (case side2 => exact (Kd.R_reads' HO_2.out).2.1); rintro e w26 ⟨v188, rfl, ho0, hb⟩; refine ⟨_, rfl, ?_⟩; have n0_ := Aside0.mk (Kd.R_below (by (with_reducible repeat (first | apply Kd.R_alloc | apply Kd.R_drewN | apply Kd.R_drew)); exact HO_1.out) hb); have n1_ := Aside0.mk (Kd.R_below (by (with_reducible repeat (first | apply Kd.R_alloc | apply Kd.R_drewN | apply Kd.R_drew)); exact HO_2.out) hb); have n2_ := Aside0.mk (Kd.R_lower ho0 (below_size (by repeat (first | (with_reducible first | exact HB.out | apply below_alloc | apply pw_below_drewN | apply below_drew1) | exact HB.out)))); have n3_ := Aside0.mk (below_step (by repeat (first | (with_reducible first | exact HB.out | apply below_alloc | apply pw_below_drewN | apply below_drew1) | exact HB.out)) hb); clear HO_1; clear HO_2; clear HB; have HO_1 := n0_; have HO_2 := n1_; have HO189 := n2_; have HB := n3_; clear n0_ n1_ n2_ n3_; (try clear hb); (try clear hb2); (try clear hk); (try clear hi); (try clear ho0)))
        (try simp only [Act.put, List.setIfInBounds_toArray, List.set_cons_zero, List.set_cons_succ])
        go_cut [82] (fun v82 wc => ∃ (kq : Nat) (x82_22 : Bool), v82 = .bool x82_22 ∧ Aside0 (metrolablaw47_awake.j1 kq t173 t186 x82_22 = some r) ∧ Aside0 (kq ≤ kj2) ∧ Aside0 (Kd.R k27 27 wc w.heap.size (fun _ => True) (.slice Ao5 t173.length co5) t173) ∧ Aside0 (Kd.R k56 56 wc w.heap.size (fun _ => True) v188 t186) ∧ Aside0 (Below w.heap.size w wc))
        case first =>
          have H := HC23.out
          clear HC23
          by_cases c27 : t185 = 0
          · rw [if_pos c27] at H
            have c27b0 : (t185 == 0) = true := beq_iff_eq.mpr c27
            have c27b1 : (t185 != 0) = false := bne_eq_false_iff_eq.mpr c27
            clear c27
            (first | rw [c27b0] | (simp only [i64_w, i32_w]; rw [c27b0]) | skip)
            by_cases c28 : t187 = 0
            · rw [if_pos c28] at H
              have c28b0 : (t187 == 0) = true := beq_iff_eq.mpr c28
              have c28b1 : (t187 != 0) = false := bne_eq_false_iff_eq.mpr c28
              clear c28
              by_cases c29 : t184 = 5
              · rw [if_pos c29] at H
                have c29b0 : (t184 == 5) = true := beq_iff_eq.mpr c29
                have c29b1 : (t184 != 5) = false := bne_eq_false_iff_eq.mpr c29
                clear c29
                replace H := Option.bind_eq_some_iff.mp H
                obtain ⟨t190, A300, H⟩ := H
                replace H : (if t190 = 0 then (metrolablaw47_awake.j1 kj2 t173 t186 ((t186.length : Int) != 2)) else (metrolablaw47_awake.j1 kj2 t173 t186 true)) = some r := H
                have A30 := Aside0.mk A300
                clear A300
                by_cases c31 : t190 = 0
                · rw [if_pos c31] at H
                  have c31b0 : (t190 == 0) = true := beq_iff_eq.mpr c31
                  have c31b1 : (t190 != 0) = false := bne_eq_false_iff_eq.mpr c31
                  clear c31
                  have H' := Aside0.mk H
                  clear H
                  go_wp2_with (first | (go_at_call 33; (with_reducible refine (gauge_Safe.calls kj2 _ _ t173 _ _ t176 t190 _ ?side1 ?side2 ?side3 ?side4 A30.out (by exact sig_below HS.out (by repeat (first | (with_reducible first | exact HB.out | apply below_alloc | apply pw_below_drewN | apply below_drew1 | fail) | exact HB.out)))).mono ?_); (case side1 => repeat (first | exact (Kd.R_reads' HO_1.out).2.2 | (with_reducible refine Kd.C_alloc ?_ _) | (with_reducible refine Kd.C_drewN ?_ _) | (with_reducible refine Kd.C_drew ?_))); (case side2 => exact (Kd.R_reads' HO_1.out).2.1); (case side3 => repeat (first | exact (Kd.R_reads' HO_2.out).2.2 | (with_reducible refine Kd.C_alloc ?_ _) | (with_reducible refine Kd.C_drewN ?_ _) | (with_reducible refine Kd.C_drew ?_))); (case side4 => exact (Kd.R_reads' HO_2.out).2.1); rintro e w32 ⟨rfl, hb⟩; have n0_ := Aside0.mk (Kd.R_below (by (with_reducible repeat (first | apply Kd.R_alloc | apply Kd.R_drewN | apply Kd.R_drew)); exact HO_1.out) hb); have n1_ := Aside0.mk (Kd.R_below (by (with_reducible repeat (first | apply Kd.R_alloc | apply Kd.R_drewN | apply Kd.R_drew)); exact HO_2.out) hb); have n2_ := Aside0.mk (Kd.R_below (by (with_reducible repeat (first | apply Kd.R_alloc | apply Kd.R_drewN | apply Kd.R_drew)); exact HO189.out) hb); have n3_ := Aside0.mk (below_step (by repeat (first | (with_reducible first | exact HB.out | apply below_alloc | apply pw_below_drewN | apply below_drew1) | exact HB.out)) hb); clear HO_1; clear HO_2; clear HO189; clear HB; have HO_1 := n0_; have HO_2 := n1_; have HO189 := n2_; have HB := n3_; clear n0_ n1_ n2_ n3_; (try clear hb); (try clear hb2); (try clear hk); (try clear hi); obtain ⟨Ao33, co33, eo33⟩ := Kd.R_slice HO189.out; subst eo33))
                  go_meet
                  case rel => exact ⟨_, (((t186.length : Int) != 2)), (by first | rfl | (simp; done) | (simp [*]; done)), H', ⟨by have := HJ2.out; first | omega | exact Nat.le_refl _⟩, ⟨by (with_reducible repeat (first | apply Kd.R_alloc | apply Kd.R_drewN | apply Kd.R_drew)); exact HO_1.out⟩, ⟨by (with_reducible repeat (first | apply Kd.R_alloc | apply Kd.R_drewN | apply Kd.R_drew)); exact HO189.out⟩, ⟨by repeat (first | (with_reducible first | exact HB.out | apply below_alloc | apply pw_below_drewN | apply below_drew1) | exact HB.out)⟩⟩
                · rw [if_neg c31] at H
                  have c31b0 : (t190 == 0) = false := beq_eq_false_iff_ne.mpr c31
                  have c31b1 : (t190 != 0) = true := bne_iff_ne.mpr c31
                  have H' := Aside0.mk H
                  clear H
                  go_wp2_with (first | (go_at_call 33; (with_reducible refine (gauge_Safe.calls kj2 _ _ t173 _ _ t176 t190 _ ?side1 ?side2 ?side3 ?side4 A30.out (by exact sig_below HS.out (by repeat (first | (with_reducible first | exact HB.out | apply below_alloc | apply pw_below_drewN | apply below_drew1 | fail) | exact HB.out)))).mono ?_); (case side1 => repeat (first | exact (Kd.R_reads' HO_1.out).2.2 | (with_reducible refine Kd.C_alloc ?_ _) | (with_reducible refine Kd.C_drewN ?_ _) | (with_reducible refine Kd.C_drew ?_))); (case side2 => exact (Kd.R_reads' HO_1.out).2.1); (case side3 => repeat (first | exact (Kd.R_reads' HO_2.out).2.2 | (with_reducible refine Kd.C_alloc ?_ _) | (with_reducible refine Kd.C_drewN ?_ _) | (with_reducible refine Kd.C_drew ?_))); (case side4 => exact (Kd.R_reads' HO_2.out).2.1); rintro e w34 ⟨rfl, hb⟩; have n0_ := Aside0.mk (Kd.R_below (by (with_reducible repeat (first | apply Kd.R_alloc | apply Kd.R_drewN | apply Kd.R_drew)); exact HO_1.out) hb); have n1_ := Aside0.mk (Kd.R_below (by (with_reducible repeat (first | apply Kd.R_alloc | apply Kd.R_drewN | apply Kd.R_drew)); exact HO_2.out) hb); have n2_ := Aside0.mk (Kd.R_below (by (with_reducible repeat (first | apply Kd.R_alloc | apply Kd.R_drewN | apply Kd.R_drew)); exact HO189.out) hb); have n3_ := Aside0.mk (below_step (by repeat (first | (with_reducible first | exact HB.out | apply below_alloc | apply pw_below_drewN | apply below_drew1) | exact HB.out)) hb); clear HO_1; clear HO_2; clear HO189; clear HB; have HO_1 := n0_; have HO_2 := n1_; have HO189 := n2_; have HB := n3_; clear n0_ n1_ n2_ n3_; (try clear hb); (try clear hb2); (try clear hk); (try clear hi)))
                  go_meet
                  case rel => exact ⟨_, (true), (by first | rfl | (simp; done) | (simp [*]; done)), H', ⟨by have := HJ2.out; first | omega | exact Nat.le_refl _⟩, ⟨by (with_reducible repeat (first | apply Kd.R_alloc | apply Kd.R_drewN | apply Kd.R_drew)); exact HO_1.out⟩, ⟨by (with_reducible repeat (first | apply Kd.R_alloc | apply Kd.R_drewN | apply Kd.R_drew)); exact HO189.out⟩, ⟨by repeat (first | (with_reducible first | exact HB.out | apply below_alloc | apply pw_below_drewN | apply below_drew1) | exact HB.out)⟩⟩
              · rw [if_neg c29] at H
                have c29b0 : (t184 == 5) = false := beq_eq_false_iff_ne.mpr c29
                have c29b1 : (t184 != 5) = true := bne_iff_ne.mpr c29
                have H' := Aside0.mk H
                clear H
                go_wp2
                go_meet
                case rel => exact ⟨_, (true), (by first | rfl | (simp; done) | (simp [*]; done)), H', ⟨by have := HJ2.out; first | omega | exact Nat.le_refl _⟩, ⟨by (with_reducible repeat (first | apply Kd.R_alloc | apply Kd.R_drewN | apply Kd.R_drew)); exact HO_1.out⟩, ⟨by (with_reducible repeat (first | apply Kd.R_alloc | apply Kd.R_drewN | apply Kd.R_drew)); exact HO189.out⟩, ⟨by repeat (first | (with_reducible first | exact HB.out | apply below_alloc | apply pw_below_drewN | apply below_drew1) | exact HB.out)⟩⟩
            · rw [if_neg c28] at H
              have c28b0 : (t187 == 0) = false := beq_eq_false_iff_ne.mpr c28
              have c28b1 : (t187 != 0) = true := bne_iff_ne.mpr c28
              have H' := Aside0.mk H
              clear H
              go_wp2
              go_meet
              case rel => exact ⟨_, (true), (by first | rfl | (simp; done) | (simp [*]; done)), H', ⟨by have := HJ2.out; first | omega | exact Nat.le_refl _⟩, ⟨by (with_reducible repeat (first | apply Kd.R_alloc | apply Kd.R_drewN | apply Kd.R_drew)); exact HO_1.out⟩, ⟨by (with_reducible repeat (first | apply Kd.R_alloc | apply Kd.R_drewN | apply Kd.R_drew)); exact HO189.out⟩, ⟨by repeat (first | (with_reducible first | exact HB.out | apply below_alloc | apply pw_below_drewN | apply below_drew1) | exact HB.out)⟩⟩
          · rw [if_neg c27] at H
            have c27b0 : (t185 == 0) = false := beq_eq_false_iff_ne.mpr c27
            have c27b1 : (t185 != 0) = true := bne_iff_ne.mpr c27
            (first | rw [c27b0] | (simp only [i64_w, i32_w]; rw [c27b0]) | skip)
            have H' := Aside0.mk H
            clear H
            go_wp2
            go_meet
            case rel => exact ⟨_, (true), (by first | rfl | (simp; done) | (simp [*]; done)), H', ⟨by have := HJ2.out; first | omega | exact Nat.le_refl _⟩, ⟨by (with_reducible repeat (first | apply Kd.R_alloc | apply Kd.R_drewN | apply Kd.R_drew)); exact HO_1.out⟩, ⟨by (with_reducible repeat (first | apply Kd.R_alloc | apply Kd.R_drewN | apply Kd.R_drew)); exact HO189.out⟩, ⟨by repeat (first | (with_reducible first | exact HB.out | apply below_alloc | apply pw_below_drewN | apply below_drew1) | exact HB.out)⟩⟩
        case rest =>
          clear HC23
          try clear c1
          try clear p1
          try clear q1
          try clear hx1
          try clear qi1
          try clear c2
          try clear p2
          try clear c3
          try clear c7
          try clear c7b0
          try clear c7b1
          try clear c8
          try clear c8b0
          try clear c8b1
          try clear c9
          try clear c9b0
          try clear c9b1
          try clear c10
          try clear c10b0
          try clear q12
          try clear c13
          try clear c15
          try clear c15b0
          try clear c15b1
          try clear c16
          try clear c16b0
          try clear p18
          try clear q18
          try clear hx18
          try clear qi18
          try clear c20
          try clear c27
          try clear c27b0
          try clear c27b1
          try clear c28
          try clear c28b0
          try clear c28b1
          try clear c29
          try clear c29b0
          try clear c29b1
          try clear c30
          try clear c31
          try clear c31b0
          try clear c31b1
          try clear c32
          try clear c34
          try clear hx180_0
          try clear hx180_1
          try clear hx180_2
          try clear hx180_3
          try clear hx180_4
          try clear hx181_0
          try clear hx181_1
          try clear hx181_2
          try clear hx181_3
          try clear hx181_4
          try clear hx182_0
          try clear hx182_1
          try clear hx182_2
          try clear hx182_3
          try clear hx182_4
          try clear hx183_0
          try clear hx183_1
          try clear hx183_2
          try clear hx183_3
          try clear hx183_4
          try clear p1
          try clear p18
          try clear p180
          try clear p181
          try clear p182
          try clear p183
          try clear p2
          try clear q1
          try clear q12
          try clear q18
          try clear q180
          try clear q181
          try clear q182
          try clear q183
          obtain ⟨kq, x82_22, rfl, HA, HJ22, HO_1, HO_5, HB⟩ := hcut
          cases kq with
          | zero => exact absurd HA.out (by simp [metrolablaw47_awake.j1])
          | succ kj22 =>
            have H := HA.out
            clear HA
            simp only [metrolablaw47_awake.j1] at H
            by_cases c35 : x82_22 = true
            · subst c35
              have H1 : (some false) = some r := by rw [if_pos rfl] at H; exact H
              clear H
              have H := H1
              clear H1
              obtain rfl := Option.some.inj H
              go_wp2
              go_ret
              exact ⟨by first | rfl | (simp [errW_none, errW_some] <;> rfl) | (simp [*, errW_none, errW_some] <;> rfl), by repeat (first | (with_reducible first | exact HB.out | apply below_alloc | apply pw_below_drewN | apply below_drew1) | exact HB.out)⟩
            · replace c35 := Bool.eq_false_iff.mpr c35
              subst c35
              have H1 : (if 0 < (t186.length : Int) then ((some (t186.set (0 : Int).toNat (⟨(⟨(rd_T56 t186 0).f0.f0, (rd_T56 t186 0).f0.f1⟩ : S23), (rd_T56 t186 0).f1, 91⟩ : S56) : List (S56))).bind fun y191 => (if 1 < (t186.length : Int) then ((gauge_Worn.f kj22 t173 (y191.set (1 : Int).toNat (⟨(⟨(rd_T56 y191 1).f0.f0, (rd_T56 y191 1).f0.f1⟩ : S23), (rd_T56 y191 1).f1, 64⟩ : S56))).bind fun bt193 => (if bt193.2 = 0 then ((slices_Equal_int_int.f kj22 bt193.1 (([0] : List Int))).bind fun t200 => (some t200)) else (some false))) else (none))) else (none)) = some r := by rw [if_neg (show ¬ (false = true) by decide)] at H; exact H
              clear H
              have H := H1
              clear H1
              by_cases c36 : 0 < (t186.length : Int)
              · rw [if_pos c36] at H
                have c36b0 : decide (0 < (t186.length : Int)) = true := decide_eq_true c36
                have c36b1 : decide (0 < t186.length) = true := decide_eq_true (by omega)
                clear c36
                obtain ⟨y191, hy191⟩ : ∃ y_ : List (S56), y_ = (t186.set (0 : Int).toNat (⟨(⟨(rd_T56 t186 0).f0.f0, (rd_T56 t186 0).f0.f1⟩ : S23), (rd_T56 t186 0).f1, 91⟩ : S56)) := ⟨_, rfl⟩
                replace H : (if 1 < (t186.length : Int) then ((gauge_Worn.f kj22 t173 (y191.set (1 : Int).toNat (⟨(⟨(rd_T56 y191 1).f0.f0, (rd_T56 y191 1).f0.f1⟩ : S23), (rd_T56 y191 1).f1, 64⟩ : S56))).bind fun bt193 => (if bt193.2 = 0 then ((slices_Equal_int_int.f kj22 bt193.1 (([0] : List Int))).bind fun t200 => (some t200)) else (some false))) else (none)) = some r := by first | (rw [hy191]; with_reducible exact H) | (have H2_ := (Option.bind_some _ _).symm.trans H; rw [hy191]; with_reducible exact H2_) | (have H2_ := (Option.bind_some _ _).symm.trans H; with_reducible exact H2_) | with_reducible exact H | (rw [hy191]; exact H) | exact H
                have Ny191 := Aside0.mk hy191
                clear hy191
                by_cases c38 : 1 < (t186.length : Int)
                · rw [if_pos c38] at H
                  have c38b0 : decide (1 < (t186.length : Int)) = true := decide_eq_true c38
                  have c38b1 : decide (1 < t186.length) = true := decide_eq_true (by omega)
                  clear c38
                  obtain ⟨y192, hy192⟩ : ∃ y_ : List (S56), y_ = (y191.set (1 : Int).toNat (⟨(⟨(rd_T56 y191 1).f0.f0, (rd_T56 y191 1).f0.f1⟩ : S23), (rd_T56 y191 1).f1, 64⟩ : S56)) := ⟨_, rfl⟩
                  replace H : ((gauge_Worn.f kj22 t173 y192).bind fun bt193 => (if bt193.2 = 0 then ((slices_Equal_int_int.f kj22 bt193.1 (([0] : List Int))).bind fun t200 => (some t200)) else (some false))) = some r := by first | (rw [hy192]; with_reducible exact H) | (have H2_ := (Option.bind_some _ _).symm.trans H; rw [hy192]; with_reducible exact H2_) | (have H2_ := (Option.bind_some _ _).symm.trans H; with_reducible exact H2_) | with_reducible exact H | (rw [hy192]; exact H) | exact H
                  have Ny192 := Aside0.mk hy192
                  clear hy192
                  replace H := Option.bind_eq_some_iff.mp H
                  obtain ⟨⟨t193, t194⟩, A400, H⟩ := H
                  replace H : (if t194 = 0 then ((slices_Equal_int_int.f kj22 t193 (([0] : List Int))).bind fun t200 => (some t200)) else (some false)) = some r := H
                  have A40 := Aside0.mk A400
                  clear A400
                  by_cases c41 : t194 = 0
                  · rw [if_pos c41] at H
                    have c41b0 : (t194 == 0) = true := beq_iff_eq.mpr c41
                    have c41b1 : (t194 != 0) = false := bne_eq_false_iff_eq.mpr c41
                    clear c41
                    obtain ⟨y197, hy197⟩ : ∃ y_ : List Int, y_ = (([0] : List Int)) := ⟨_, rfl⟩
                    replace H : ((slices_Equal_int_int.f kj22 t193 y197).bind fun t200 => (some t200)) = some r := by first | (rw [hy197]; with_reducible exact H) | (have H2_ := (Option.bind_some _ _).symm.trans H; rw [hy197]; with_reducible exact H2_) | (have H2_ := (Option.bind_some _ _).symm.trans H; with_reducible exact H2_) | with_reducible exact H | (rw [hy197]; exact H) | exact H
                    have Ny197 := Aside0.mk hy197
                    clear hy197
                    replace H := Option.bind_eq_some_iff.mp H
                    obtain ⟨t200, A420, H⟩ := H
                    replace H : (some t200) = some r := H
                    have A42 := Aside0.mk A420
                    clear A420
                    obtain rfl := Option.some.inj H
                    have p37 : 0 ≤ (0 : Int) := (by omega)
                    have q37 : (0 : Int) < ((t186.length : Int) : Int) := of_decide_eq_true (by first | (with_reducible assumption) | assumption)
                    have qi37 : (0 < t186.length) = True := eq_true (by omega)
                    obtain ⟨go37, co37, eo37, gb37, gl37, cl37, HG37⟩ := Kd.R_form HO_5.out (by omega)
                    (first | cases eo37 | (injection eo37 with ea_ en_ ec_; (first | subst ea_ | (injection ea_ with ea_; subst ea_)); subst ec_; clear en_))
                    have GB37 := Aside0.mk gb37
                    have GG37 := Aside0.mk HG37
                    clear gb37 gl37 HG37
                    obtain ⟨ce37, hcl37, hM37, hcc37, hfr37⟩ := Kd.R_elem HO_5.out z56 (0 : Int) p37 q37
                    obtain rfl := k56_openM hM37
                    have hx37_0 : wc.cell? ⟨go37, (0 : Int).toNat * 4, none⟩ = some (.int .i64 ((rd_T56 t186 0).f0.f0)) := hcc37 0 _ rfl
                    have hx37_1 : wc.cell? ⟨go37, (0 : Int).toNat * 4 + 1, none⟩ = some (.int .i64 ((rd_T56 t186 0).f0.f1)) := hcc37 1 _ rfl
                    have hx37_2 : wc.cell? ⟨go37, (0 : Int).toNat * 4 + 2, none⟩ = some (.bool ((rd_T56 t186 0).f1)) := hcc37 2 _ rfl
                    have hx37_3 : wc.cell? ⟨go37, (0 : Int).toNat * 4 + 3, none⟩ = some (.int .i64 ((rd_T56 t186 0).f2)) := hcc37 3 _ rfl
                    have hf37_0 : wc.frozen? ⟨go37, (0 : Int).toNat * 4, none⟩ = false := hfr37 0
                    have hf37_1 : wc.frozen? ⟨go37, (0 : Int).toNat * 4 + 1, none⟩ = false := hfr37 1
                    have hf37_2 : wc.frozen? ⟨go37, (0 : Int).toNat * 4 + 2, none⟩ = false := hfr37 2
                    have hf37_3 : wc.frozen? ⟨go37, (0 : Int).toNat * 4 + 3, none⟩ = false := hfr37 3
                    clear hcl37 hcc37 hfr37 hM37
                    (try rw [show ((0 : Int)).toNat = 0 from rfl] at hx37_0)
                    (try simp only [Nat.reduceMul, Nat.zero_mul, Nat.zero_add, Nat.reduceAdd] at hx37_0)
                    (try rw [show ((0 : Int)).toNat = 0 from rfl] at hf37_0)
                    (try simp only [Nat.reduceMul, Nat.zero_mul, Nat.zero_add, Nat.reduceAdd] at hf37_0)
                    (try rw [show ((0 : Int)).toNat = 0 from rfl] at hx37_1)
                    (try simp only [Nat.reduceMul, Nat.zero_mul, Nat.zero_add, Nat.reduceAdd] at hx37_1)
                    (try rw [show ((0 : Int)).toNat = 0 from rfl] at hf37_1)
                    (try simp only [Nat.reduceMul, Nat.zero_mul, Nat.zero_add, Nat.reduceAdd] at hf37_1)
                    (try rw [show ((0 : Int)).toNat = 0 from rfl] at hx37_2)
                    (try simp only [Nat.reduceMul, Nat.zero_mul, Nat.zero_add, Nat.reduceAdd] at hx37_2)
                    (try rw [show ((0 : Int)).toNat = 0 from rfl] at hf37_2)
                    (try simp only [Nat.reduceMul, Nat.zero_mul, Nat.zero_add, Nat.reduceAdd] at hf37_2)
                    (try rw [show ((0 : Int)).toNat = 0 from rfl] at hx37_3)
                    (try simp only [Nat.reduceMul, Nat.zero_mul, Nat.zero_add, Nat.reduceAdd] at hx37_3)
                    (try rw [show ((0 : Int)).toNat = 0 from rfl] at hf37_3)
                    (try simp only [Nat.reduceMul, Nat.zero_mul, Nat.zero_add, Nat.reduceAdd] at hf37_3)
                    replace p37 := eq_true p37
                    replace q37 := eq_true q37
                    have HX43 := Aside0.mk (show Kd.R k56 56 wc w.heap.size (fun _ => True) (.slice (some ⟨go37, 0, none⟩) t186.length co37) t186 from (by (with_reducible repeat (first | apply Kd.R_alloc | apply Kd.R_drewN | apply Kd.R_drew)); exact HO_5.out))
                    obtain ⟨ce43, hcl43, hM43, hcc43, hfr43⟩ := Kd.R_elem HX43.out z56 (0 : Int) (by omega) (by have h_ : (0 : Int) < ((t186.length : Int) : Int) := of_decide_eq_true (by first | (with_reducible assumption) | assumption); first | exact h_ | (have e_ := (Kd.R_reads' HO_5.out).1; omega) | simpa using h_)
                    obtain rfl := k56_openM hM43
                    have HP43 := Kd.R_seg HX43.out (0 : Int) (by omega) (by have h_ : (0 : Int) < ((t186.length : Int) : Int) := of_decide_eq_true (by first | (with_reducible assumption) | assumption); first | exact h_ | (have e_ := (Kd.R_reads' HO_5.out).1; omega) | simpa using h_) (seg := [.int .i64 91]) (j := 3) hcl43 hcc43 (show 4 ≤ 4 from by decide) (x' := (⟨(⟨(rd_T56 t186 0).f0.f0, (rd_T56 t186 0).f0.f1⟩ : S23), (rd_T56 t186 0).f1, 91⟩ : S56)) (k56_mkM _ _ _ (⟨(⟨(rd_T56 t186 0).f0.f0, (rd_T56 t186 0).f0.f1⟩ : S23), (rd_T56 t186 0).f1, 91⟩ : S56) ) (fun _ hk => hk)
                    have hx43_3 := hcc43 3 _ rfl
                    (try simp only [show (k56).sz = 4 from rfl, Nat.mul_one, Nat.add_zero] at hx43_3)
                    (try rw [show ((0 : Int)).toNat = 0 from rfl] at hx43_3)
                    (try simp only [Nat.reduceMul, Nat.zero_mul, Nat.zero_add, Nat.reduceAdd] at hx43_3)
                    have hf43_3 := hfr43 3
                    (try simp only [show (k56).sz = 4 from rfl, Nat.mul_one, Nat.add_zero] at hf43_3)
                    (try rw [show ((0 : Int)).toNat = 0 from rfl] at hf43_3)
                    (try simp only [Nat.reduceMul, Nat.zero_mul, Nat.zero_add, Nat.reduceAdd] at hf43_3)
                    clear hcl43 hcc43 hfr43 hM43
                    go_wp2_with (first | ((with_reducible refine gate_store (t := 3) (p := 86) rfl ?_); refine store_event (t := 3) (p := 86) (v := ?vo_w44) (w1 := (wc.setCell ⟨go37, 3, none⟩ (.int .i64 91))) ?hg ?ho ?hn ?hr ?_; (case ho => rfl); (case hg => rfl); (case hn => rfl); (case hr => first | (go_simp; done) | (go_simp; rfl)); intro w44 hw; have hg : wc.grownBy w44 (some go37) := (by rw [hw]; exact HP43.2); have hp_ : Kd.R k56 56 w44 w.heap.size (fun _ => True) (.slice (some ⟨go37, 0, none⟩) t186.length co37) y191 := (by rw [hw, Ny191.out]; exact HP43.1); clear HP43; have n0_ := Aside0.mk (Kd.R_over' (v := (.slice (some ⟨go37, 0, none⟩) t186.length co37)) (by (with_reducible repeat (first | apply Kd.R_alloc | apply Kd.R_drewN | apply Kd.R_drew)); exact HO_1.out) (Kd.R_typed HO_5.out) (by decide) hg); have n1_ := Aside0.mk (hp_); have n2_ := Aside0.mk ((by rw [hw]; exact below_set (HB.out) GB37.out : Below w.heap.size w w44)); clear HO_1; clear HO_5; clear HB; have HO_1 := n0_; have HO_5 := n1_; have HB := n2_; clear n0_ n1_ n2_; clear hg hw hp_; have p39 : 0 ≤ (1 : Int) := (by omega); have q39 : (1 : Int) < ((t186.length : Int) : Int) := of_decide_eq_true (by first | (with_reducible assumption) | assumption); have qi39 : (1 < t186.length) = True := eq_true (by omega); obtain ⟨ce39, hcl39, hM39, hcc39, hfr39⟩ := Kd.R_elem HO_5.out z56 (1 : Int) p39 q39; obtain rfl := k56_openM hM39; have hx39_0 : w44.cell? ⟨go37, (1 : Int).toNat * 4, none⟩ = some (.int .i64 ((rd_T56 y191 1).f0.f0)) := hcc39 0 _ rfl; have hx39_1 : w44.cell? ⟨go37, (1 : Int).toNat * 4 + 1, none⟩ = some (.int .i64 ((rd_T56 y191 1).f0.f1)) := hcc39 1 _ rfl; have hx39_2 : w44.cell? ⟨go37, (1 : Int).toNat * 4 + 2, none⟩ = some (.bool ((rd_T56 y191 1).f1)) := hcc39 2 _ rfl; have hx39_3 : w44.cell? ⟨go37, (1 : Int).toNat * 4 + 3, none⟩ = some (.int .i64 ((rd_T56 y191 1).f2)) := hcc39 3 _ rfl; have hf39_0 : w44.frozen? ⟨go37, (1 : Int).toNat * 4, none⟩ = false := hfr39 0; have hf39_1 : w44.frozen? ⟨go37, (1 : Int).toNat * 4 + 1, none⟩ = false := hfr39 1; have hf39_2 : w44.frozen? ⟨go37, (1 : Int).toNat * 4 + 2, none⟩ = false := hfr39 2; have hf39_3 : w44.frozen? ⟨go37, (1 : Int).toNat * 4 + 3, none⟩ = false := hfr39 3; clear hcl39 hcc39 hfr39 hM39; (try rw [show ((1 : Int)).toNat = 1 from rfl] at hx39_0); (try simp only [Nat.reduceMul, Nat.zero_mul, Nat.zero_add, Nat.reduceAdd] at hx39_0); (try rw [show ((1 : Int)).toNat = 1 from rfl] at hf39_0); (try simp only [Nat.reduceMul, Nat.zero_mul, Nat.zero_add, Nat.reduceAdd] at hf39_0); (try rw [show ((1 : Int)).toNat = 1 from rfl] at hx39_1); (try simp only [Nat.reduceMul, Nat.zero_mul, Nat.zero_add, Nat.reduceAdd] at hx39_1); (try rw [show ((1 : Int)).toNat = 1 from rfl] at hf39_1); (try simp only [Nat.reduceMul, Nat.zero_mul, Nat.zero_add, Nat.reduceAdd] at hf39_1); (try rw [show ((1 : Int)).toNat = 1 from rfl] at hx39_2); (try simp only [Nat.reduceMul, Nat.zero_mul, Nat.zero_add, Nat.reduceAdd] at hx39_2); (try rw [show ((1 : Int)).toNat = 1 from rfl] at hf39_2); (try simp only [Nat.reduceMul, Nat.zero_mul, Nat.zero_add, Nat.reduceAdd] at hf39_2); (try rw [show ((1 : Int)).toNat = 1 from rfl] at hx39_3); (try simp only [Nat.reduceMul, Nat.zero_mul, Nat.zero_add, Nat.reduceAdd] at hx39_3); (try rw [show ((1 : Int)).toNat = 1 from rfl] at hf39_3); (try simp only [Nat.reduceMul, Nat.zero_mul, Nat.zero_add, Nat.reduceAdd] at hf39_3); replace p39 := eq_true p39; replace q39 := eq_true q39; have HX45 := Aside0.mk (show Kd.R k56 56 w44 w.heap.size (fun _ => True) (.slice (some ⟨go37, 0, none⟩) t186.length co37) y191 from (by (with_reducible repeat (first | apply Kd.R_alloc | apply Kd.R_drewN | apply Kd.R_drew)); exact HO_5.out)); obtain ⟨ce45, hcl45, hM45, hcc45, hfr45⟩ := Kd.R_elem HX45.out z56 (1 : Int) (by omega) (by have h_ : (1 : Int) < ((t186.length : Int) : Int) := of_decide_eq_true (by first | (with_reducible assumption) | assumption); first | exact h_ | (have e_ := (Kd.R_reads' HO_5.out).1; omega) | simpa using h_); obtain rfl := k56_openM hM45; have HP45 := Kd.R_seg HX45.out (1 : Int) (by omega) (by have h_ : (1 : Int) < ((t186.length : Int) : Int) := of_decide_eq_true (by first | (with_reducible assumption) | assumption); first | exact h_ | (have e_ := (Kd.R_reads' HO_5.out).1; omega) | simpa using h_) (seg := [.int .i64 64]) (j := 3) hcl45 hcc45 (show 4 ≤ 4 from by decide) (x' := (⟨(⟨(rd_T56 y191 1).f0.f0, (rd_T56 y191 1).f0.f1⟩ : S23), (rd_T56 y191 1).f1, 64⟩ : S56)) (k56_mkM _ _ _ (⟨(⟨(rd_T56 y191 1).f0.f0, (rd_T56 y191 1).f0.f1⟩ : S23), (rd_T56 y191 1).f1, 64⟩ : S56) ) (fun _ hk => hk); have hx45_3 := hcc45 3 _ rfl; (try simp only [show (k56).sz = 4 from rfl, Nat.mul_one, Nat.add_zero] at hx45_3); (try rw [show ((1 : Int)).toNat = 1 from rfl] at hx45_3); (try simp only [Nat.reduceMul, Nat.zero_mul, Nat.zero_add, Nat.reduceAdd] at hx45_3); have hf45_3 := hfr45 3; (try simp only [show (k56).sz = 4 from rfl, Nat.mul_one, Nat.add_zero] at hf45_3); (try rw [show ((1 : Int)).toNat = 1 from rfl] at hf45_3); (try simp only [Nat.reduceMul, Nat.zero_mul, Nat.zero_add, Nat.reduceAdd] at hf45_3); clear hcl45 hcc45 hfr45 hM45) | ((with_reducible refine gate_store (t := 3) (p := 88) rfl ?_); refine store_event (t := 3) (p := 88) (v := ?vo_w46) (w1 := (w44.setCell ⟨go37, 7, none⟩ (.int .i64 64))) ?hg ?ho ?hn ?hr ?_; (case ho => rfl); (case hg => rfl); (case hn => rfl); (case hr => first | (go_simp; done) | (go_simp; rfl)); intro w46 hw; have hg : w44.grownBy w46 (some go37) := (by rw [hw]; exact HP45.2); have hp_ : Kd.R k56 56 w46 w.heap.size (fun _ => True) (.slice (some ⟨go37, 0, none⟩) t186.length co37) y192 := (by rw [hw, Ny192.out]; exact HP45.1); clear HP45; have n0_ := Aside0.mk (Kd.R_over' (v := (.slice (some ⟨go37, 0, none⟩) t186.length co37)) (by (with_reducible repeat (first | apply Kd.R_alloc | apply Kd.R_drewN | apply Kd.R_drew)); exact HO_1.out) (Kd.R_typed HO_5.out) (by decide) hg); have n1_ := Aside0.mk (hp_); have n2_ := Aside0.mk ((by rw [hw]; exact below_set (HB.out) GB37.out : Below w.heap.size w w46)); clear HO_1; clear HO_5; clear HB; have HO_1 := n0_; have HO_5 := n1_; have HB := n2_; clear n0_ n1_ n2_; clear hg hw hp_) | ((with_reducible refine gate_callee (f := 36) rfl ?_); refine goesL_ (some 92) rfl rfl Tryd.func36 (by kernel_rfl) rfl #[.slice Ao5 t173.length co5, .slice (some ⟨go37, 0, none⟩) y192.length co37] rfl (by (try simp only [List.map_toArray, List.map_cons, List.map_nil]); first | done | (rw [show y192.length = t186.length from (Kd.R_reads' HO_5.out).1.symm] <;> rfl) | rfl | (simp only [List.length_drop, List.length_take]; rfl)) ?_; (with_reducible refine (gauge_Worn.calls kj22 _ _ t173 _ _ y192 t193 t194 _ ?side1 ?side2 ?side3 ?side4 A40.out (by exact sig_below HS.out (by repeat (first | (with_reducible first | exact HB.out | apply below_alloc | apply pw_below_drewN | apply below_drew1 | fail) | exact HB.out)))).mono ?_); (case side1 => repeat (first | exact (Kd.R_reads' HO_1.out).2.2 | (with_reducible refine Kd.C_alloc ?_ _) | (with_reducible refine Kd.C_drewN ?_ _) | (with_reducible refine Kd.C_drew ?_))); (case side2 => exact (Kd.R_reads' HO_1.out).2.1); (case side3 => repeat (first | exact (Kd.R_reads' HO_5.out).2.2 | (with_reducible refine Kd.C_alloc ?_ _) | (with_reducible refine Kd.C_drewN ?_ _) | (with_reducible refine Kd.C_drew ?_))); (case side4 => rw [show y192.length = t186.length from (Kd.R_reads' HO_5.out).1.symm]; exact (Kd.R_reads' HO_5.out).2.1); rintro e w47 ⟨v195, rfl, ho0, hb⟩; refine ⟨_, rfl, ?_⟩; have n0_ := Aside0.mk (Kd.R_below (by (with_reducible repeat (first | apply Kd.R_alloc | apply Kd.R_drewN | apply Kd.R_drew)); exact HO_1.out) hb); have n1_ := Aside0.mk (Kd.R_below (by (with_reducible repeat (first | apply Kd.R_alloc | apply Kd.R_drewN | apply Kd.R_drew)); exact HO_5.out) hb); have n2_ := Aside0.mk (Kd.R_lower ho0 (below_size (by repeat (first | (with_reducible first | exact HB.out | apply below_alloc | apply pw_below_drewN | apply below_drew1) | exact HB.out)))); have n3_ := Aside0.mk (below_step (by repeat (first | (with_reducible first | exact HB.out | apply below_alloc | apply pw_below_drewN | apply below_drew1) | exact HB.out)) hb); clear HO_1; clear HO_5; clear HB; have HO_1 := n0_; have HO_5 := n1_; have HO196 := n2_; have HB := n3_; clear n0_ n1_ n2_ n3_; (try clear hb); (try clear hb2); (try clear hk); (try clear hi); (try clear ho0)) | ((with_reducible refine gate_dst (N := 99) rfl ?_); (try (refine gate_guard (by rfl) ?_; dsimp only)); refine Kd.R_lit (Kd.int .i64) _ 3 ?hg (N := 99) ?hd (xs := ([0] : List Int)) (inner := [.int .i64 0]) (ok := fun _ => True) (okp := fun _ => True) ?hr ?hp (fun _ hk => hk) trivial (Below.refl _ _) (Nat.le_refl _) (by simp) ?_; (case hd => rfl); (case hg => rfl); (case hr => first | (go_simp; done) | (go_simp; rfl)); (case hp => exact (Reps.one (show Kd.M (Kd.int .i64) _ _ _ 0 [.int .i64 0] from rfl) (Reps.none _ _))); intro v198 w48 ho49 hb hg_ hnew_; clear hg_ hnew_; (first | rw [← Ny197.out] at ho49 | (simp only [Int.reduceToNat] at ho49; rw [← Ny197.out] at ho49)); have n0_ := Aside0.mk (Kd.R_below (by (with_reducible repeat (first | apply Kd.R_alloc | apply Kd.R_drewN | apply Kd.R_drew)); exact HO_1.out) hb); have n1_ := Aside0.mk (Kd.R_below (by (with_reducible repeat (first | apply Kd.R_alloc | apply Kd.R_drewN | apply Kd.R_drew)); exact HO_5.out) hb); have n2_ := Aside0.mk (Kd.R_elder' (by (with_reducible repeat (first | apply Kd.R_alloc | apply Kd.R_drewN | apply Kd.R_drew)); exact HO196.out) (Kd.R_base ho49) hb); have n3_ := Aside0.mk (Kd.R_lower (Kd.R_new' ho49 (Kd.R_lt (by (with_reducible repeat (first | apply Kd.R_alloc | apply Kd.R_drewN | apply Kd.R_drew)); exact HO196.out))) (below_size (by repeat (first | (with_reducible first | exact HB.out | apply below_alloc | apply pw_below_drewN | apply below_drew1) | exact HB.out)))); have n4_ := Aside0.mk (below_step (by repeat (first | (with_reducible first | exact HB.out | apply below_alloc | apply pw_below_drewN | apply below_drew1) | exact HB.out)) hb); clear HO_1; clear HO_5; clear HO196; clear HB; have HO_1 := n0_; have HO_5 := n1_; have HO196 := n2_; have HO199 := n3_; have HB := n4_; clear n0_ n1_ n2_ n3_ n4_; clear hb ho49; obtain ⟨Ao50, co50, eo50⟩ := Kd.R_slice HO196.out; subst eo50; obtain ⟨Ao51, co51, eo51⟩ := Kd.R_slice HO199.out; subst eo51) | (go_at_call 55; (with_reducible refine (slices_Equal_int_int.calls kj22 _ _ t193 _ _ y197 t200 _ ?side1 ?side2 ?side3 ?side4 A42.out).mono ?_); (case side1 => repeat (first | exact (Kd.R_reads' HO196.out).2.2 | (with_reducible refine Kd.C_alloc ?_ _) | (with_reducible refine Kd.C_drewN ?_ _) | (with_reducible refine Kd.C_drew ?_))); (case side2 => exact (Kd.R_reads' HO196.out).2.1); (case side3 => repeat (first | exact (Kd.R_reads' HO199.out).2.2 | (with_reducible refine Kd.C_alloc ?_ _) | (with_reducible refine Kd.C_drewN ?_ _) | (with_reducible refine Kd.C_drew ?_))); (case side4 => exact (Kd.R_reads' HO199.out).2.1); rintro e w' ⟨rfl, ⟨nd, rfl⟩⟩))
                    go_ret
                    exact ⟨by first | rfl | (simp [errW_none, errW_some] <;> rfl) | (simp [*, errW_none, errW_some] <;> rfl), by repeat (first | (with_reducible first | exact HB.out | apply below_alloc | apply pw_below_drewN | apply below_drew1) | exact HB.out)⟩
                  · rw [if_neg c41] at H
                    have c41b0 : (t194 == 0) = false := beq_eq_false_iff_ne.mpr c41
                    have c41b1 : (t194 != 0) = true := bne_iff_ne.mpr c41
                    obtain rfl := Option.some.inj H
                    have p37 : 0 ≤ (0 : Int) := (by omega)
                    have q37 : (0 : Int) < ((t186.length : Int) : Int) := of_decide_eq_true (by first | (with_reducible assumption) | assumption)
                    have qi37 : (0 < t186.length) = True := eq_true (by omega)
                    obtain ⟨go37, co37, eo37, gb37, gl37, cl37, HG37⟩ := Kd.R_form HO_5.out (by omega)
                    (first | cases eo37 | (injection eo37 with ea_ en_ ec_; (first | subst ea_ | (injection ea_ with ea_; subst ea_)); subst ec_; clear en_))
                    have GB37 := Aside0.mk gb37
                    have GG37 := Aside0.mk HG37
                    clear gb37 gl37 HG37
                    obtain ⟨ce37, hcl37, hM37, hcc37, hfr37⟩ := Kd.R_elem HO_5.out z56 (0 : Int) p37 q37
                    obtain rfl := k56_openM hM37
                    have hx37_0 : wc.cell? ⟨go37, (0 : Int).toNat * 4, none⟩ = some (.int .i64 ((rd_T56 t186 0).f0.f0)) := hcc37 0 _ rfl
                    have hx37_1 : wc.cell? ⟨go37, (0 : Int).toNat * 4 + 1, none⟩ = some (.int .i64 ((rd_T56 t186 0).f0.f1)) := hcc37 1 _ rfl
                    have hx37_2 : wc.cell? ⟨go37, (0 : Int).toNat * 4 + 2, none⟩ = some (.bool ((rd_T56 t186 0).f1)) := hcc37 2 _ rfl
                    have hx37_3 : wc.cell? ⟨go37, (0 : Int).toNat * 4 + 3, none⟩ = some (.int .i64 ((rd_T56 t186 0).f2)) := hcc37 3 _ rfl
                    have hf37_0 : wc.frozen? ⟨go37, (0 : Int).toNat * 4, none⟩ = false := hfr37 0
                    have hf37_1 : wc.frozen? ⟨go37, (0 : Int).toNat * 4 + 1, none⟩ = false := hfr37 1
                    have hf37_2 : wc.frozen? ⟨go37, (0 : Int).toNat * 4 + 2, none⟩ = false := hfr37 2
                    have hf37_3 : wc.frozen? ⟨go37, (0 : Int).toNat * 4 + 3, none⟩ = false := hfr37 3
                    clear hcl37 hcc37 hfr37 hM37
                    (try rw [show ((0 : Int)).toNat = 0 from rfl] at hx37_0)
                    (try simp only [Nat.reduceMul, Nat.zero_mul, Nat.zero_add, Nat.reduceAdd] at hx37_0)
                    (try rw [show ((0 : Int)).toNat = 0 from rfl] at hf37_0)
                    (try simp only [Nat.reduceMul, Nat.zero_mul, Nat.zero_add, Nat.reduceAdd] at hf37_0)
                    (try rw [show ((0 : Int)).toNat = 0 from rfl] at hx37_1)
                    (try simp only [Nat.reduceMul, Nat.zero_mul, Nat.zero_add, Nat.reduceAdd] at hx37_1)
                    (try rw [show ((0 : Int)).toNat = 0 from rfl] at hf37_1)
                    (try simp only [Nat.reduceMul, Nat.zero_mul, Nat.zero_add, Nat.reduceAdd] at hf37_1)
                    (try rw [show ((0 : Int)).toNat = 0 from rfl] at hx37_2)
                    (try simp only [Nat.reduceMul, Nat.zero_mul, Nat.zero_add, Nat.reduceAdd] at hx37_2)
                    (try rw [show ((0 : Int)).toNat = 0 from rfl] at hf37_2)
                    (try simp only [Nat.reduceMul, Nat.zero_mul, Nat.zero_add, Nat.reduceAdd] at hf37_2)
                    (try rw [show ((0 : Int)).toNat = 0 from rfl] at hx37_3)
                    (try simp only [Nat.reduceMul, Nat.zero_mul, Nat.zero_add, Nat.reduceAdd] at hx37_3)
                    (try rw [show ((0 : Int)).toNat = 0 from rfl] at hf37_3)
                    (try simp only [Nat.reduceMul, Nat.zero_mul, Nat.zero_add, Nat.reduceAdd] at hf37_3)
                    replace p37 := eq_true p37
                    replace q37 := eq_true q37
                    have HX52 := Aside0.mk (show Kd.R k56 56 wc w.heap.size (fun _ => True) (.slice (some ⟨go37, 0, none⟩) t186.length co37) t186 from (by (with_reducible repeat (first | apply Kd.R_alloc | apply Kd.R_drewN | apply Kd.R_drew)); exact HO_5.out))
                    obtain ⟨ce52, hcl52, hM52, hcc52, hfr52⟩ := Kd.R_elem HX52.out z56 (0 : Int) (by omega) (by have h_ : (0 : Int) < ((t186.length : Int) : Int) := of_decide_eq_true (by first | (with_reducible assumption) | assumption); first | exact h_ | (have e_ := (Kd.R_reads' HO_5.out).1; omega) | simpa using h_)
                    obtain rfl := k56_openM hM52
                    have HP52 := Kd.R_seg HX52.out (0 : Int) (by omega) (by have h_ : (0 : Int) < ((t186.length : Int) : Int) := of_decide_eq_true (by first | (with_reducible assumption) | assumption); first | exact h_ | (have e_ := (Kd.R_reads' HO_5.out).1; omega) | simpa using h_) (seg := [.int .i64 91]) (j := 3) hcl52 hcc52 (show 4 ≤ 4 from by decide) (x' := (⟨(⟨(rd_T56 t186 0).f0.f0, (rd_T56 t186 0).f0.f1⟩ : S23), (rd_T56 t186 0).f1, 91⟩ : S56)) (k56_mkM _ _ _ (⟨(⟨(rd_T56 t186 0).f0.f0, (rd_T56 t186 0).f0.f1⟩ : S23), (rd_T56 t186 0).f1, 91⟩ : S56) ) (fun _ hk => hk)
                    have hx52_3 := hcc52 3 _ rfl
                    (try simp only [show (k56).sz = 4 from rfl, Nat.mul_one, Nat.add_zero] at hx52_3)
                    (try rw [show ((0 : Int)).toNat = 0 from rfl] at hx52_3)
                    (try simp only [Nat.reduceMul, Nat.zero_mul, Nat.zero_add, Nat.reduceAdd] at hx52_3)
                    have hf52_3 := hfr52 3
                    (try simp only [show (k56).sz = 4 from rfl, Nat.mul_one, Nat.add_zero] at hf52_3)
                    (try rw [show ((0 : Int)).toNat = 0 from rfl] at hf52_3)
                    (try simp only [Nat.reduceMul, Nat.zero_mul, Nat.zero_add, Nat.reduceAdd] at hf52_3)
                    clear hcl52 hcc52 hfr52 hM52
                    go_wp2_with (first | ((with_reducible refine gate_store (t := 3) (p := 86) rfl ?_); refine store_event (t := 3) (p := 86) (v := ?vo_w53) (w1 := (wc.setCell ⟨go37, 3, none⟩ (.int .i64 91))) ?hg ?ho ?hn ?hr ?_; (case ho => rfl); (case hg => rfl); (case hn => rfl); (case hr => first | (go_simp; done) | (go_simp; rfl)); intro w53 hw; have hg : wc.grownBy w53 (some go37) := (by rw [hw]; exact HP52.2); have hp_ : Kd.R k56 56 w53 w.heap.size (fun _ => True) (.slice (some ⟨go37, 0, none⟩) t186.length co37) y191 := (by rw [hw, Ny191.out]; exact HP52.1); clear HP52; have n0_ := Aside0.mk (Kd.R_over' (v := (.slice (some ⟨go37, 0, none⟩) t186.length co37)) (by (with_reducible repeat (first | apply Kd.R_alloc | apply Kd.R_drewN | apply Kd.R_drew)); exact HO_1.out) (Kd.R_typed HO_5.out) (by decide) hg); have n1_ := Aside0.mk (hp_); have n2_ := Aside0.mk ((by rw [hw]; exact below_set (HB.out) GB37.out : Below w.heap.size w w53)); clear HO_1; clear HO_5; clear HB; have HO_1 := n0_; have HO_5 := n1_; have HB := n2_; clear n0_ n1_ n2_; clear hg hw hp_; have p39 : 0 ≤ (1 : Int) := (by omega); have q39 : (1 : Int) < ((t186.length : Int) : Int) := of_decide_eq_true (by first | (with_reducible assumption) | assumption); have qi39 : (1 < t186.length) = True := eq_true (by omega); obtain ⟨ce39, hcl39, hM39, hcc39, hfr39⟩ := Kd.R_elem HO_5.out z56 (1 : Int) p39 q39; obtain rfl := k56_openM hM39; have hx39_0 : w53.cell? ⟨go37, (1 : Int).toNat * 4, none⟩ = some (.int .i64 ((rd_T56 y191 1).f0.f0)) := hcc39 0 _ rfl; have hx39_1 : w53.cell? ⟨go37, (1 : Int).toNat * 4 + 1, none⟩ = some (.int .i64 ((rd_T56 y191 1).f0.f1)) := hcc39 1 _ rfl; have hx39_2 : w53.cell? ⟨go37, (1 : Int).toNat * 4 + 2, none⟩ = some (.bool ((rd_T56 y191 1).f1)) := hcc39 2 _ rfl; have hx39_3 : w53.cell? ⟨go37, (1 : Int).toNat * 4 + 3, none⟩ = some (.int .i64 ((rd_T56 y191 1).f2)) := hcc39 3 _ rfl; have hf39_0 : w53.frozen? ⟨go37, (1 : Int).toNat * 4, none⟩ = false := hfr39 0; have hf39_1 : w53.frozen? ⟨go37, (1 : Int).toNat * 4 + 1, none⟩ = false := hfr39 1; have hf39_2 : w53.frozen? ⟨go37, (1 : Int).toNat * 4 + 2, none⟩ = false := hfr39 2; have hf39_3 : w53.frozen? ⟨go37, (1 : Int).toNat * 4 + 3, none⟩ = false := hfr39 3; clear hcl39 hcc39 hfr39 hM39; (try rw [show ((1 : Int)).toNat = 1 from rfl] at hx39_0); (try simp only [Nat.reduceMul, Nat.zero_mul, Nat.zero_add, Nat.reduceAdd] at hx39_0); (try rw [show ((1 : Int)).toNat = 1 from rfl] at hf39_0); (try simp only [Nat.reduceMul, Nat.zero_mul, Nat.zero_add, Nat.reduceAdd] at hf39_0); (try rw [show ((1 : Int)).toNat = 1 from rfl] at hx39_1); (try simp only [Nat.reduceMul, Nat.zero_mul, Nat.zero_add, Nat.reduceAdd] at hx39_1); (try rw [show ((1 : Int)).toNat = 1 from rfl] at hf39_1); (try simp only [Nat.reduceMul, Nat.zero_mul, Nat.zero_add, Nat.reduceAdd] at hf39_1); (try rw [show ((1 : Int)).toNat = 1 from rfl] at hx39_2); (try simp only [Nat.reduceMul, Nat.zero_mul, Nat.zero_add, Nat.reduceAdd] at hx39_2); (try rw [show ((1 : Int)).toNat = 1 from rfl] at hf39_2); (try simp only [Nat.reduceMul, Nat.zero_mul, Nat.zero_add, Nat.reduceAdd] at hf39_2); (try rw [show ((1 : Int)).toNat = 1 from rfl] at hx39_3); (try simp only [Nat.reduceMul, Nat.zero_mul, Nat.zero_add, Nat.reduceAdd] at hx39_3); (try rw [show ((1 : Int)).toNat = 1 from rfl] at hf39_3); (try simp only [Nat.reduceMul, Nat.zero_mul, Nat.zero_add, Nat.reduceAdd] at hf39_3); replace p39 := eq_true p39; replace q39 := eq_true q39; have HX54 := Aside0.mk (show Kd.R k56 56 w53 w.heap.size (fun _ => True) (.slice (some ⟨go37, 0, none⟩) t186.length co37) y191 from (by (with_reducible repeat (first | apply Kd.R_alloc | apply Kd.R_drewN | apply Kd.R_drew)); exact HO_5.out)); obtain ⟨ce54, hcl54, hM54, hcc54, hfr54⟩ := Kd.R_elem HX54.out z56 (1 : Int) (by omega) (by have h_ : (1 : Int) < ((t186.length : Int) : Int) := of_decide_eq_true (by first | (with_reducible assumption) | assumption); first | exact h_ | (have e_ := (Kd.R_reads' HO_5.out).1; omega) | simpa using h_); obtain rfl := k56_openM hM54; have HP54 := Kd.R_seg HX54.out (1 : Int) (by omega) (by have h_ : (1 : Int) < ((t186.length : Int) : Int) := of_decide_eq_true (by first | (with_reducible assumption) | assumption); first | exact h_ | (have e_ := (Kd.R_reads' HO_5.out).1; omega) | simpa using h_) (seg := [.int .i64 64]) (j := 3) hcl54 hcc54 (show 4 ≤ 4 from by decide) (x' := (⟨(⟨(rd_T56 y191 1).f0.f0, (rd_T56 y191 1).f0.f1⟩ : S23), (rd_T56 y191 1).f1, 64⟩ : S56)) (k56_mkM _ _ _ (⟨(⟨(rd_T56 y191 1).f0.f0, (rd_T56 y191 1).f0.f1⟩ : S23), (rd_T56 y191 1).f1, 64⟩ : S56) ) (fun _ hk => hk); have hx54_3 := hcc54 3 _ rfl; (try simp only [show (k56).sz = 4 from rfl, Nat.mul_one, Nat.add_zero] at hx54_3); (try rw [show ((1 : Int)).toNat = 1 from rfl] at hx54_3); (try simp only [Nat.reduceMul, Nat.zero_mul, Nat.zero_add, Nat.reduceAdd] at hx54_3); have hf54_3 := hfr54 3; (try simp only [show (k56).sz = 4 from rfl, Nat.mul_one, Nat.add_zero] at hf54_3); (try rw [show ((1 : Int)).toNat = 1 from rfl] at hf54_3); (try simp only [Nat.reduceMul, Nat.zero_mul, Nat.zero_add, Nat.reduceAdd] at hf54_3); clear hcl54 hcc54 hfr54 hM54) | ((with_reducible refine gate_store (t := 3) (p := 88) rfl ?_); refine store_event (t := 3) (p := 88) (v := ?vo_w55) (w1 := (w53.setCell ⟨go37, 7, none⟩ (.int .i64 64))) ?hg ?ho ?hn ?hr ?_; (case ho => rfl); (case hg => rfl); (case hn => rfl); (case hr => first | (go_simp; done) | (go_simp; rfl)); intro w55 hw; have hg : w53.grownBy w55 (some go37) := (by rw [hw]; exact HP54.2); have hp_ : Kd.R k56 56 w55 w.heap.size (fun _ => True) (.slice (some ⟨go37, 0, none⟩) t186.length co37) y192 := (by rw [hw, Ny192.out]; exact HP54.1); clear HP54; have n0_ := Aside0.mk (Kd.R_over' (v := (.slice (some ⟨go37, 0, none⟩) t186.length co37)) (by (with_reducible repeat (first | apply Kd.R_alloc | apply Kd.R_drewN | apply Kd.R_drew)); exact HO_1.out) (Kd.R_typed HO_5.out) (by decide) hg); have n1_ := Aside0.mk (hp_); have n2_ := Aside0.mk ((by rw [hw]; exact below_set (HB.out) GB37.out : Below w.heap.size w w55)); clear HO_1; clear HO_5; clear HB; have HO_1 := n0_; have HO_5 := n1_; have HB := n2_; clear n0_ n1_ n2_; clear hg hw hp_) | ((with_reducible refine gate_callee (f := 36) rfl ?_); refine goesL_ (some 92) rfl rfl Tryd.func36 (by kernel_rfl) rfl #[.slice Ao5 t173.length co5, .slice (some ⟨go37, 0, none⟩) y192.length co37] rfl (by (try simp only [List.map_toArray, List.map_cons, List.map_nil]); first | done | (rw [show y192.length = t186.length from (Kd.R_reads' HO_5.out).1.symm] <;> rfl) | rfl | (simp only [List.length_drop, List.length_take]; rfl)) ?_; (with_reducible refine (gauge_Worn.calls kj22 _ _ t173 _ _ y192 t193 t194 _ ?side1 ?side2 ?side3 ?side4 A40.out (by exact sig_below HS.out (by repeat (first | (with_reducible first | exact HB.out | apply below_alloc | apply pw_below_drewN | apply below_drew1 | fail) | exact HB.out)))).mono ?_); (case side1 => repeat (first | exact (Kd.R_reads' HO_1.out).2.2 | (with_reducible refine Kd.C_alloc ?_ _) | (with_reducible refine Kd.C_drewN ?_ _) | (with_reducible refine Kd.C_drew ?_))); (case side2 => exact (Kd.R_reads' HO_1.out).2.1); (case side3 => repeat (first | exact (Kd.R_reads' HO_5.out).2.2 | (with_reducible refine Kd.C_alloc ?_ _) | (with_reducible refine Kd.C_drewN ?_ _) | (with_reducible refine Kd.C_drew ?_))); (case side4 => rw [show y192.length = t186.length from (Kd.R_reads' HO_5.out).1.symm]; exact (Kd.R_reads' HO_5.out).2.1); rintro e w56 ⟨v195, rfl, ho0, hb⟩; refine ⟨_, rfl, ?_⟩; have n0_ := Aside0.mk (Kd.R_below (by (with_reducible repeat (first | apply Kd.R_alloc | apply Kd.R_drewN | apply Kd.R_drew)); exact HO_1.out) hb); have n1_ := Aside0.mk (Kd.R_below (by (with_reducible repeat (first | apply Kd.R_alloc | apply Kd.R_drewN | apply Kd.R_drew)); exact HO_5.out) hb); have n2_ := Aside0.mk (Kd.R_lower ho0 (below_size (by repeat (first | (with_reducible first | exact HB.out | apply below_alloc | apply pw_below_drewN | apply below_drew1) | exact HB.out)))); have n3_ := Aside0.mk (below_step (by repeat (first | (with_reducible first | exact HB.out | apply below_alloc | apply pw_below_drewN | apply below_drew1) | exact HB.out)) hb); clear HO_1; clear HO_5; clear HB; have HO_1 := n0_; have HO_5 := n1_; have HO196 := n2_; have HB := n3_; clear n0_ n1_ n2_ n3_; (try clear hb); (try clear hb2); (try clear hk); (try clear hi); (try clear ho0)))
                    go_ret
                    exact ⟨by first | rfl | (simp [errW_none, errW_some] <;> rfl) | (simp [*, errW_none, errW_some] <;> rfl), by repeat (first | (with_reducible first | exact HB.out | apply below_alloc | apply pw_below_drewN | apply below_drew1) | exact HB.out)⟩
                · rw [if_neg c38] at H
                  exact absurd H (by simp)
              · rw [if_neg c36] at H
                exact absurd H (by simp)
end Go.Proofs.YtjemaonejkepcaaDoor.G
namespace Go.Proofs.YtjemaonejkepcaaDoor.G
set_option linter.unusedVariables false
set_option linter.unusedSimpArgs false
open Go.Proofs.YtjemaonejkepcaaDoor.B
open Go.RowKit Go.Proofs.YtjemaonejkepcaaDoorW.PrintWords
theorem awake_60 : metrolablaw47_awake.f 60 = some true := by decide +kernel
theorem awake_ok (k : Nat) (hk : 60 ≤ k) : metrolablaw47_awake.f k = some true := by
  obtain ⟨j, rfl⟩ : ∃ j, k = 60 + j := ⟨k - 60, by omega⟩
  clear hk
  induction j with
  | zero => exact awake_60
  | succ j ih => exact metrolablaw47_awake.mono (60 + j) _ ih
end Go.Proofs.YtjemaonejkepcaaDoor.G
namespace Go.Proofs.YtjemaonejkepcaaDoor.G
open Go.Proofs.YtjemaonejkepcaaDoor.B
open Go.RowKit Go.Proofs.YtjemaonejkepcaaDoorW.PrintWords Go.Proofs.YtjemaonejkepcaaDoorW.PrintLast Go.Proofs.YtjemaonejkepcaaDoorW.PrintMore
attribute [local go_sem] max2_int min2_int max_two min_two max_three min_three max_four min_four   -- for this text's walks alone
set_option linter.unusedVariables false
set_option linter.unusedSimpArgs false
def metrolablaw47_elements.l0 : Nat → List (S141) → List (S104) → Int → Int → Option ((List (S141)))
  | 0, _, _, _, _ => none
  | k + 1, x3, x6, x7, x8 => if x8 < x7 then (if 0 ≤ x8 then (if x8 < (x6.length : Int) then (if x3.length < 3518437208883 then (metrolablaw47_elements.l0 k (x3 ++ [(⟨(⟨(rd_T104 x6 x8).f0.f0, (rd_T104 x6 x8).f0.f1⟩ : S23), (rd_T104 x6 x8).f1, (⟨(rd_T104 x6 x8).f2.f0, (rd_T104 x6 x8).f2.f1⟩ : S25)⟩ : S141)]) x6 x7 (wrap64 (x8 + 1))) else (none)) else (none)) else (none)) else (some x3)
def metrolablaw47_elements.f (k : Nat) (l0 : List (S104)) : Option ((List (S141))) := metrolablaw47_elements.l0 k ([] : List (S141)) l0 (l0.length : Int) 0
theorem metrolablaw47_elements.mono_l : ∀ k, (∀ y0 y1 y2 y3, LeO (metrolablaw47_elements.l0 k y0 y1 y2 y3) (metrolablaw47_elements.l0 (k + 1) y0 y1 y2 y3))
  | 0 => fun _ _ _ _ r h => by simp [metrolablaw47_elements.l0] at h
  | k + 1 => by
    have ih0 := metrolablaw47_elements.mono_l k
    · intro y0 y1 y2 y3
      unfold metrolablaw47_elements.l0
      repeat' first
      | (with_reducible exact ih0 _ _ _ _)
      | (with_reducible exact LeO.refl _)
      | (with_reducible exact LeO.none _)
      | (with_reducible refine LeO.ite ?_ ?_)
      | (with_reducible refine LeO.bind ?_ (fun _ => ?_))
      | exact ih0 _ _ _ _
      | exact LeO.none _
      | refine LeO.ite ?_ ?_
      | refine LeO.bind ?_ (fun _ => ?_)
theorem metrolablaw47_elements.mono : ∀ a0 k, LeO (metrolablaw47_elements.f k a0) (metrolablaw47_elements.f (k + 1) a0) := by
  intro a0 k
  have ih0 := metrolablaw47_elements.mono_l k
  unfold metrolablaw47_elements.f
  repeat' first
      | (with_reducible exact ih0 _ _ _ _)
      | (with_reducible exact LeO.refl _)
      | (with_reducible exact LeO.none _)
      | (with_reducible refine LeO.ite ?_ ?_)
      | (with_reducible refine LeO.bind ?_ (fun _ => ?_))
      | exact ih0 _ _ _ _
      | exact LeO.none _
      | refine LeO.ite ?_ ?_
      | refine LeO.bind ?_ (fun _ => ?_)
set_option maxHeartbeats 8000000 in
set_option maxRecDepth 100000 in
theorem metrolablaw47_elements.calls (k : Nat) (A0 : Option Addr) (c0 : Nat) (l0 : List (S104)) (r : List (S141)) (w : World) (hr0 : Kd.C k104 w A0 l0.length l0) (hc0 : l0.length ≤ c0) (h : metrolablaw47_elements.f k l0 = some r) :
    Calls Tryd.prog 57 #[.slice A0 l0.length c0] w fun e w' => ∃ v0_ : Value, e = .returned (v0_) ∧ Kd.R k141 141 w' w.heap.size (fun _ => True) v0_ r ∧ Below w.heap.size w w' := by
  have hu104 := Tryd.underlying104
  have HR0 := Aside0.mk hr0
  have HC0 := Aside0.mk hc0
  clear hr0 hc0
  have HB := Aside0.mk (Below.refl w.heap.size w)
  have H : (metrolablaw47_elements.l0 k ([] : List (S141)) l0 (l0.length : Int) 0) = some r := h
  clear h
  have H' := Aside0.mk H
  clear H
  go_enter Tryd.func57, Tryd.ntmps57
  go_wp2
  go_loopg [3, 8] k (fun kq v3 v8 w' => ∃ (x3_1 : List (S141)) (x8_1 : Int), v8 = .int .i64 x8_1 ∧ Aside0 (metrolablaw47_elements.l0 kq x3_1 l0 (l0.length : Int) x8_1 = some r) ∧ Aside0 (kq ≤ k) ∧ Aside0 (Kd.R k141 141 w' w.heap.size (fun _ => True) v3 x3_1) ∧ Aside0 (Below w.heap.size w w'))
  case atStart => exact ⟨(([] : List (S141))), (0), (by first | rfl | (simp; done) | (simp [*]; done)), H', ⟨Nat.le_refl _⟩, ⟨by first | exact Kd.R_nil _ _ _ _ _ | exact Kd.N_nil _ _ _ _ _ | exact Kd.V_nil _ _ _ _ _ | exact Kd.Q_nil _ _ _ _ _ | exact Kd.S_nil _ _ _ _ _⟩, ⟨by repeat (first | (with_reducible first | exact HB.out | apply below_alloc | apply pw_below_drewN | apply below_drew1) | exact HB.out)⟩⟩
  case round =>
    clear H'
    obtain ⟨x3_1, x8_1, rfl, HA, HK1, HO_3, HB⟩ := hrel
    cases gk with
    | zero => exact absurd HA.out (by simp [metrolablaw47_elements.l0])
    | succ k1 =>
      have H := HA.out
      clear HA
      simp only [metrolablaw47_elements.l0] at H
      by_cases c2 : x8_1 < (l0.length : Int)
      · rw [if_pos c2] at H
        have c2b0 : decide (x8_1 < (l0.length : Int)) = true := decide_eq_true c2
        clear c2
        by_cases c3 : 0 ≤ x8_1
        · rw [if_pos c3] at H
          have c3b0 : decide (0 ≤ x8_1) = true := decide_eq_true c3
          clear c3
          by_cases c4 : x8_1 < (l0.length : Int)
          · rw [if_pos c4] at H
            have c4b0 : decide (x8_1 < (l0.length : Int)) = true := decide_eq_true c4
            clear c4
            by_cases c5 : x3_1.length < 3518437208883
            · rw [if_pos c5] at H
              have LMc5 := Aside0.mk c5
              clear c5
              obtain ⟨y297, hy297⟩ : ∃ y_ : List (S141), y_ = (x3_1 ++ [(⟨(⟨(rd_T104 l0 x8_1).f0.f0, (rd_T104 l0 x8_1).f0.f1⟩ : S23), (rd_T104 l0 x8_1).f1, (⟨(rd_T104 l0 x8_1).f2.f0, (rd_T104 l0 x8_1).f2.f1⟩ : S25)⟩ : S141)]) := ⟨_, rfl⟩
              replace H : (metrolablaw47_elements.l0 k1 y297 l0 (l0.length : Int) (wrap64 (x8_1 + 1))) = some r := by first | (rw [hy297]; with_reducible exact H) | (have H2_ := (Option.bind_some _ _).symm.trans H; rw [hy297]; with_reducible exact H2_) | (have H2_ := (Option.bind_some _ _).symm.trans H; with_reducible exact H2_) | with_reducible exact H | (rw [hy297]; exact H) | exact H
              have Ny297 := Aside0.mk hy297
              clear hy297
              have H' := Aside0.mk H
              clear H
              have p295 : 0 ≤ (x8_1 : Int) := of_decide_eq_true (by first | (with_reducible assumption) | assumption)
              have q295 : x8_1 < (l0.length : Int) := of_decide_eq_true (by first | (with_reducible assumption) | assumption)
              obtain ⟨ad295, e295, hx295_0, hx295_1, hx295_2, hx295_3, hx295_4⟩ := at_T104 HR0.out x8_1 p295 q295
              cases e295
              replace hx295_0 := (HB.out.cell (World.block_lt_of_cell? w _ hx295_0)).trans hx295_0
              replace hx295_1 := (HB.out.cell (World.block_lt_of_cell? w _ hx295_1)).trans hx295_1
              replace hx295_2 := (HB.out.cell (World.block_lt_of_cell? w _ hx295_2)).trans hx295_2
              replace hx295_3 := (HB.out.cell (World.block_lt_of_cell? w _ hx295_3)).trans hx295_3
              replace hx295_4 := (HB.out.cell (World.block_lt_of_cell? w _ hx295_4)).trans hx295_4
              replace p295 := eq_true p295
              replace q295 := eq_true q295
              go_wp2_with (first | ((with_reducible refine gate_dst (N := 5) rfl ?_); refine box_event ?hg (N := 5) ?hd (cs := #[.int .i64 0, .int .i64 0, .bool false, .int .i64 0, .int .i64 0]) (t := 104) ?hr ?_; (case hd => rfl); (case hg => rfl); (case hr => first | (go_simp; done) | (go_simp; rfl)); intro gb296 hg w6 hbox hb; have n0_ := Aside0.mk (Kd.R_below (by (with_reducible repeat (first | apply Kd.R_alloc | apply Kd.R_drewN | apply Kd.R_drew)); exact HO_3.out) hb); have n1_ := Aside0.mk (below_step (by repeat (first | (with_reducible first | exact HB.out | apply below_alloc | apply pw_below_drewN | apply below_drew1) | exact HB.out)) hb); have n2_ := Aside0.mk (hbox); have n3_ := Aside0.mk ((by rw [hg]; exact (below_size (by repeat (first | (with_reducible first | exact HB.out | apply below_alloc | apply pw_below_drewN | apply below_drew1) | exact HB.out))) : w.heap.size ≤ gb296)); have n4_ := Aside0.mk ((by rw [hg]; exact (below_size (by repeat (first | (with_reducible first | exact HB.out | apply below_alloc | apply pw_below_drewN | apply below_drew1) | exact HB.out))) : w.heap.size ≤ gb296)); clear HO_3; clear HB; have HO_3 := n0_; have HB := n1_; have BK296 := n2_; have GW296 := n3_; have GE296 := n4_; clear n0_ n1_ n2_ n3_ n4_; clear hb hbox hg; have hcz7_0 : w6.cell? ⟨gb296, 0, none⟩ = some (.int .i64 0) := (blk_cell BK296.out 0).trans rfl; have hcz7_1 : w6.cell? ⟨gb296, 1, none⟩ = some (.int .i64 0) := (blk_cell BK296.out 1).trans rfl; have hcz7_2 : w6.cell? ⟨gb296, 2, none⟩ = some (.bool false) := (blk_cell BK296.out 2).trans rfl; have hcz7_3 : w6.cell? ⟨gb296, 3, none⟩ = some (.int .i64 0) := (blk_cell BK296.out 3).trans rfl; have hcz7_4 : w6.cell? ⟨gb296, 4, none⟩ = some (.int .i64 0) := (blk_cell BK296.out 4).trans rfl; have hfz7_0 := blk_frozen BK296.out 0; have hfz7_1 := blk_frozen BK296.out 1; have hfz7_2 := blk_frozen BK296.out 2; have hfz7_3 := blk_frozen BK296.out 3; have hfz7_4 := blk_frozen BK296.out 4) | ((with_reducible refine gate_builtin (b := .append) (xs := #[.tmp 12, .tmp 14]) rfl ?_); at_builtin; refine Kd.R_append k141 (w0 := w) w.heap.size rfl (.tmp 12) (.tmp 14) 91 141 (.agg #[(.int .i64 0), (.int .i64 0), (.bool false), (.int .i64 0), (.int .i64 0)]) 40 rfl Tryd.underlying91 info141 rfl (by decide) (by omega) u3 x3_1 (⟨(⟨(rd_T104 l0 x8_1).f0.f0, (rd_T104 l0 x8_1).f0.f1⟩ : S23), (rd_T104 l0 x8_1).f1, (⟨(rd_T104 l0 x8_1).f2.f0, (rd_T104 l0 x8_1).f2.f1⟩ : S25)⟩ : S141) [.int .i64 ((rd_T104 l0 x8_1).f0.f0), .int .i64 ((rd_T104 l0 x8_1).f0.f1), .bool ((rd_T104 l0 x8_1).f1), .int .i64 ((rd_T104 l0 x8_1).f2.f0), .int .i64 ((rd_T104 l0 x8_1).f2.f1)] (fun _ => True) (fun _ => False) rfl (by first | (go_simp; done) | (go_simp; rfl)) ?aP (fun _ hk => hk.elim) ?aF ?aO ?aB ?aS ?aL ?_; (case aP => exact k141_mkM _ _ _ (⟨(⟨(rd_T104 l0 x8_1).f0.f0, (rd_T104 l0 x8_1).f0.f1⟩ : S23), (rd_T104 l0 x8_1).f1, (⟨(rd_T104 l0 x8_1).f2.f0, (rd_T104 l0 x8_1).f2.f1⟩ : S25)⟩ : S141)); (case aB => exact (by repeat (first | (with_reducible first | exact HB.out | apply below_alloc | apply pw_below_drewN | apply below_drew1 | refine below_set ?_ GE296.out) | exact HB.out))); (case aF => exact (fun _ _ => trivial)); (case aO => exact (by (with_reducible repeat (first | apply Kd.R_alloc | apply Kd.R_drewN | apply Kd.R_drew)); exact Kd.R_mono (Kd.R_far (p := ⟨gb296, 4, none⟩) (Kd.R_far (p := ⟨gb296, 3, none⟩) (Kd.R_far (p := ⟨gb296, 2, none⟩) (Kd.R_far (p := ⟨gb296, 1, none⟩) (Kd.R_far (p := ⟨gb296, 0, none⟩) (Kd.R_types HO_3.out BK296.out (by decide)) (fun _ hk => hk.2) (.int .i64 ((rd_T104 l0 x8_1).f0.f0))) (fun _ hk => hk.2) (.int .i64 ((rd_T104 l0 x8_1).f0.f1))) (fun _ hk => hk.2) (.bool ((rd_T104 l0 x8_1).f1))) (fun _ hk => hk.2) (.int .i64 ((rd_T104 l0 x8_1).f2.f0))) (fun _ hk => hk.2) (.int .i64 ((rd_T104 l0 x8_1).f2.f1))) (fun _ hk => trivial))); (case aS => exact (below_size (by repeat (first | (with_reducible first | exact HB.out | apply below_alloc | apply pw_below_drewN | apply below_drew1 | refine below_set ?_ GE296.out) | exact HB.out)))); (case aL => have := LMc5.out; omega); intro v298 w8 ho hb hg hat; rw [← Ny297.out] at ho; have n0_ := Aside0.mk (blk_grown (g := gb296) (o := .cells #[.int .i64 ((rd_T104 l0 x8_1).f0.f0), .int .i64 ((rd_T104 l0 x8_1).f0.f1), .bool ((rd_T104 l0 x8_1).f1), .int .i64 ((rd_T104 l0 x8_1).f2.f0), .int .i64 ((rd_T104 l0 x8_1).f2.f1)] 104 (0, 0)) (by (with_reducible repeat (first | refine blk_drewN ?_ _ | refine blk_drew ?_ | refine blk_alloc ?_ _)); refine blk_put (cs := #[.int .i64 ((rd_T104 l0 x8_1).f0.f0), .int .i64 ((rd_T104 l0 x8_1).f0.f1), .bool ((rd_T104 l0 x8_1).f1), .int .i64 ((rd_T104 l0 x8_1).f2.f0), .int .i64 0]) ?_ 4 _ rfl; (with_reducible repeat (first | refine blk_drewN ?_ _ | refine blk_drew ?_ | refine blk_alloc ?_ _)); refine blk_put (cs := #[.int .i64 ((rd_T104 l0 x8_1).f0.f0), .int .i64 ((rd_T104 l0 x8_1).f0.f1), .bool ((rd_T104 l0 x8_1).f1), .int .i64 0, .int .i64 0]) ?_ 3 _ rfl; (with_reducible repeat (first | refine blk_drewN ?_ _ | refine blk_drew ?_ | refine blk_alloc ?_ _)); refine blk_put (cs := #[.int .i64 ((rd_T104 l0 x8_1).f0.f0), .int .i64 ((rd_T104 l0 x8_1).f0.f1), .bool false, .int .i64 0, .int .i64 0]) ?_ 2 _ rfl; (with_reducible repeat (first | refine blk_drewN ?_ _ | refine blk_drew ?_ | refine blk_alloc ?_ _)); refine blk_put (cs := #[.int .i64 ((rd_T104 l0 x8_1).f0.f0), .int .i64 0, .bool false, .int .i64 0, .int .i64 0]) ?_ 1 _ rfl; (with_reducible repeat (first | refine blk_drewN ?_ _ | refine blk_drew ?_ | refine blk_alloc ?_ _)); refine blk_put (cs := #[.int .i64 0, .int .i64 0, .bool false, .int .i64 0, .int .i64 0]) ?_ 0 _ rfl; (with_reducible repeat (first | refine blk_drewN ?_ _ | refine blk_drew ?_ | refine blk_alloc ?_ _)); exact BK296.out) hg (Kd.R_ne HO_3.out BK296.out (by decide))); have n1_ := Aside0.mk (hb); have n2_ := Aside0.mk (ho); clear BK296; clear HB; clear HO_3; have BK296 := n0_; have HB := n1_; have HO299 := n2_; clear n0_ n1_ n2_; clear ho hb hg hat))
              go_roundg k1
              case measure => have := HK1.out; omega
              case rel => exact ⟨(y297), (wrap64 (x8_1 + 1)), (by first | rfl | (simp; done) | (simp [*]; done)), H', ⟨by have := HK1.out; omega⟩, ⟨by (with_reducible repeat (first | apply Kd.R_alloc | apply Kd.R_drewN | apply Kd.R_drew)); exact HO299.out⟩, ⟨by repeat (first | (with_reducible first | exact HB.out | apply below_alloc | apply pw_below_drewN | apply below_drew1 | refine below_set ?_ GE296.out) | exact HB.out)⟩⟩
            · rw [if_neg c5] at H
              exact absurd H (by simp)
          · rw [if_neg c4] at H
            exact absurd H (by simp)
        · rw [if_neg c3] at H
          exact absurd H (by simp)
      · rw [if_neg c2] at H
        have c2b0 : decide (x8_1 < (l0.length : Int)) = false := decide_eq_false c2
        clear c2
        obtain rfl := Option.some.inj H
        go_wp2
        go_ret
        exact ⟨_, by first | rfl | (simp [errW_none, errW_some] <;> rfl) | (simp [*, errW_none, errW_some] <;> rfl), by (with_reducible repeat (first | apply Kd.R_alloc | apply Kd.R_drewN | apply Kd.R_drew)); exact HO_3.out, by repeat (first | (with_reducible first | exact HB.out | apply below_alloc | apply pw_below_drewN | apply below_drew1) | exact HB.out)⟩
end Go.Proofs.YtjemaonejkepcaaDoor.G
namespace Go.Proofs.YtjemaonejkepcaaDoor.G
open Go.Proofs.YtjemaonejkepcaaDoor.B
open Go.RowKit Go.Proofs.YtjemaonejkepcaaDoorW.PrintWords Go.Proofs.YtjemaonejkepcaaDoorW.PrintLast Go.Proofs.YtjemaonejkepcaaDoorW.PrintMore
attribute [local go_sem] max2_int min2_int max_two min_two max_three min_three max_four min_four   -- for this text's walks alone
set_option linter.unusedVariables false
set_option linter.unusedSimpArgs false
theorem eqA141 (d : Nat) (w : World) (x0 y0 : Int) (x1 y1 : Int) (x2 y2 : Bool) (x3 y3 : Int) (x4 y4 : Int) :
    (Op.equalIn (d + 3) 141 (.agg #[.int .i64 x0, .int .i64 x1, .bool x2, .int .i64 x3, .int .i64 x4]) (.agg #[.int .i64 y0, .int .i64 y1, .bool y2, .int .i64 y3, .int .i64 y4])).run Tryd.prog w = .ok ((x0 == y0 && (x1 == y1)) && (x2 == y2 && ((x3 == y3 && (x4 == y4))))) w := by
  refine eqA_of Tryd.underlying141 (by kernel_rfl) ?_
  refine eqf_cons (by rfl) (by go_simp) (by go_simp) (eqA23 (d + 0) w _ _ _ _) ?_
  refine eqf_cons (by rfl) (by go_simp; rfl) (by go_simp; rfl) (by go_simp) ?_
  exact eqf_last (by rfl) (by go_simp) (by go_simp) (eqA25 (d + 0) w _ _ _ _)
end Go.Proofs.YtjemaonejkepcaaDoor.G
namespace Go.Proofs.YtjemaonejkepcaaDoor.G
set_option linter.unusedVariables false
set_option linter.unusedSimpArgs false
open Go.Proofs.YtjemaonejkepcaaDoor.B
open Go.RowKit Go.Proofs.YtjemaonejkepcaaDoorW.PrintWords
/-- An element as one of the reference. -/
def el (x : S104) : S141 := ⟨⟨x.f0.f0, x.f0.f1⟩, x.f1, ⟨x.f2.f0, x.f2.f1⟩⟩
theorem elements_l0 (l : List S104) (hn : l.length ≤ 1000) (d : Nat) : ∀ (k : Nat) (acc : List S141) (i : Int), 0 ≤ i → (l.length : Int) - i = d → acc.length + d ≤ 1000 → d < k →
    metrolablaw47_elements.l0 k acc l (l.length : Int) i = some (acc ++ (l.drop i.toNat).map el) := by
  induction d with
  | zero =>
    intro k acc i h0 hd ha hk
    obtain ⟨k, rfl⟩ : ∃ m, k = m + 1 := ⟨k - 1, by omega⟩
    rw [drop_end l (by omega)]
    simp only [metrolablaw47_elements.l0]
    rw [if_neg (by omega)]; simp
  | succ d ih =>
    intro k acc i h0 hd ha hk
    obtain ⟨k, rfl⟩ : ∃ m, k = m + 1 := ⟨k - 1, by omega⟩
    have h1 : i < (l.length : Int) := by omega
    rw [drop_rd l z104 h0 h1]
    simp only [metrolablaw47_elements.l0]
    rw [if_pos h1, if_pos h0, if_pos h1, if_pos (by omega), up64 h0 (by omega), ih k _ (i + 1) (by omega) (by omega) (by simp; omega) (by omega)]
    simp [rd_T104, el]
theorem elements_ok (k : Nat) (l : List S104) (hn : l.length ≤ 1000) (hk : l.length < k) : metrolablaw47_elements.f k l = some (l.map el) := by
  unfold metrolablaw47_elements.f
  rw [elements_l0 l hn l.length k [] 0 (by omega) (by omega) (by simp; omega) hk]; simp
end Go.Proofs.YtjemaonejkepcaaDoor.G
namespace Go.Proofs.YtjemaonejkepcaaDoor.G
open Go.Proofs.YtjemaonejkepcaaDoor.B
open Go.RowKit Go.Proofs.YtjemaonejkepcaaDoorW.PrintWords Go.Proofs.YtjemaonejkepcaaDoorW.PrintLast Go.Proofs.YtjemaonejkepcaaDoorW.PrintMore
attribute [local go_sem] max2_int min2_int max_two min_two max_three min_three max_four min_four   -- for this text's walks alone
set_option linter.unusedVariables false
set_option linter.unusedSimpArgs false
def metrolabref47_size.f (a0 : Int) : Option (Bool) := if a0 ≥ 1 then (some (decide (a0 ≤ 300000))) else (some false)
set_option maxHeartbeats 8000000 in
set_option maxRecDepth 100000 in
theorem metrolabref47_size.calls (a0 : Int) (r : Bool) (w : World) (h : metrolabref47_size.f a0 = some r) :
    Calls Tryd.prog 103 #[.int .i64 a0] w fun e w' => e = .returned (.bool r) ∧ Drawn0 w w' := by
  have H : (if a0 ≥ 1 then (some (decide (a0 ≤ 300000))) else (some false)) = some r := h
  clear h
  by_cases c2 : a0 ≥ 1
  · rw [if_pos c2] at H
    have c2b0 : decide (1 ≤ a0) = true := decide_eq_true c2
    clear c2
    obtain rfl := Option.some.inj H
    go_enter Tryd.func103, Tryd.ntmps103
    go_wp2
    go_ret
    exact ⟨by first | rfl | (simp; done) | (simp [*]; done), by repeat (first | exact Drawn0.refl _ | apply Drawn0.step)⟩
  · rw [if_neg c2] at H
    have c2b0 : decide (1 ≤ a0) = false := decide_eq_false c2
    clear c2
    obtain rfl := Option.some.inj H
    go_enter Tryd.func103, Tryd.ntmps103
    go_wp2
    go_ret
    exact ⟨by first | rfl | (simp; done) | (simp [*]; done), by repeat (first | exact Drawn0.refl _ | apply Drawn0.step)⟩
def metrolabref47_limits.j0 : Nat → Bool → Int → Int → Bool → Int → Int → Option (Int)
  | 0, _, _, _, _, _, _ => none
  | k + 1, x14, x277000, x277001, x277002, x277003, x277004 => if x14 = true then (some 2) else (if x277003 > x277004 then (some 9) else (some 0))
def metrolabref47_limits.f (k : Nat) (a0_0 : Int) (a0_1 : Int) (a0_2 : Bool) (a0_3 : Int) (a0_4 : Int) : Option (Int) := (metrolabref47_size.f a0_3).bind fun t277 => (if t277 = true then ((metrolabref47_size.f a0_4).bind fun t278 => (metrolabref47_limits.j0 k (!t278) a0_0 a0_1 a0_2 a0_3 a0_4)) else (metrolabref47_limits.j0 k true a0_0 a0_1 a0_2 a0_3 a0_4))
theorem metrolabref47_limits.mono_l : ∀ k, (∀ y0 y1 y2 y3 y4 y5, LeO (metrolabref47_limits.j0 k y0 y1 y2 y3 y4 y5) (metrolabref47_limits.j0 (k + 1) y0 y1 y2 y3 y4 y5))
  | 0 => fun _ _ _ _ _ _ r h => by simp [metrolabref47_limits.j0] at h
  | k + 1 => by
    have ih0 := metrolabref47_limits.mono_l k
    · intro y0 y1 y2 y3 y4 y5
      unfold metrolabref47_limits.j0
      repeat' first
      | (with_reducible exact ih0 _ _ _ _ _ _)
      | (with_reducible exact LeO.refl _)
      | (with_reducible exact LeO.none _)
      | (with_reducible refine LeO.ite ?_ ?_)
      | (with_reducible refine LeO.bind ?_ (fun _ => ?_))
      | exact ih0 _ _ _ _ _ _
      | exact LeO.none _
      | refine LeO.ite ?_ ?_
      | refine LeO.bind ?_ (fun _ => ?_)
theorem metrolabref47_limits.mono : ∀ a0 a1 a2 a3 a4 k, LeO (metrolabref47_limits.f k a0 a1 a2 a3 a4) (metrolabref47_limits.f (k + 1) a0 a1 a2 a3 a4) := by
  intro a0 a1 a2 a3 a4 k
  have ih0 := metrolabref47_limits.mono_l k
  unfold metrolabref47_limits.f
  repeat' first
      | (with_reducible exact ih0 _ _ _ _ _ _)
      | (with_reducible exact LeO.refl _)
      | (with_reducible exact LeO.none _)
      | (with_reducible refine LeO.ite ?_ ?_)
      | (with_reducible refine LeO.bind ?_ (fun _ => ?_))
      | exact ih0 _ _ _ _ _ _
      | exact LeO.none _
      | refine LeO.ite ?_ ?_
      | refine LeO.bind ?_ (fun _ => ?_)
set_option maxHeartbeats 8000000 in
set_option maxRecDepth 100000 in
theorem metrolabref47_limits.calls (k : Nat) (a0_0 : Int) (a0_1 : Int) (a0_2 : Bool) (a0_3 : Int) (a0_4 : Int) (r : Int) (w : World) (h : metrolabref47_limits.f k a0_0 a0_1 a0_2 a0_3 a0_4 = some r) :
    Calls Tryd.prog 101 #[.agg #[.int .i64 a0_0, .int .i64 a0_1, .bool a0_2, .int .i64 a0_3, .int .i64 a0_4]] w fun e w' => e = .returned (.int .i64 r) ∧ Below w.heap.size w w' := by
  have hu141 := Tryd.underlying141
  have HB := Aside0.mk (Below.refl w.heap.size w)
  have H : ((metrolabref47_size.f a0_3).bind fun t277 => (if t277 = true then ((metrolabref47_size.f a0_4).bind fun t278 => (metrolabref47_limits.j0 k (!t278) a0_0 a0_1 a0_2 a0_3 a0_4)) else (metrolabref47_limits.j0 k true a0_0 a0_1 a0_2 a0_3 a0_4))) = some r := h
  clear h
  have HC2 := Aside0.mk H
  clear H
  go_enter Tryd.func101, Tryd.ntmps101
  go_upto_region 1 with (first | ((with_reducible refine gate_dst (N := 1) rfl ?_); refine box_event ?hg (N := 1) ?hd (cs := #[.int .i64 a0_0, .int .i64 a0_1, .bool a0_2, .int .i64 a0_3, .int .i64 a0_4]) (t := 141) ?hr ?_; (case hd => rfl); (case hg => rfl); (case hr => first | (go_simp; done) | (go_simp; rfl)); intro gb276 hg w3 hbox hb; have n0_ := Aside0.mk (below_step (by repeat (first | (with_reducible first | exact HB.out | apply below_alloc | apply pw_below_drewN | apply below_drew1) | exact HB.out)) hb); have n1_ := Aside0.mk (hbox); have n2_ := Aside0.mk ((by rw [hg]; exact (below_size (by repeat (first | (with_reducible first | exact HB.out | apply below_alloc | apply pw_below_drewN | apply below_drew1) | exact HB.out))) : w.heap.size ≤ gb276)); have n3_ := Aside0.mk ((by rw [hg]; exact (below_size (by repeat (first | (with_reducible first | exact HB.out | apply below_alloc | apply pw_below_drewN | apply below_drew1) | exact HB.out))) : w.heap.size ≤ gb276)); clear HB; have HB := n0_; have BK276 := n1_; have GW276 := n2_; have GE276 := n3_; clear n0_ n1_ n2_ n3_; clear hb hbox hg))
  (try simp only [Act.put, List.setIfInBounds_toArray, List.set_cons_zero, List.set_cons_succ])
  go_cut [14] (fun v14 wc => ∃ (kq : Nat) (x14_1 : Bool), v14 = .bool x14_1 ∧ Aside0 (metrolabref47_limits.j0 kq x14_1 a0_0 a0_1 a0_2 a0_3 a0_4 = some r) ∧ Aside0 (kq ≤ k) ∧ Aside0 (wc.heap[gb276]? = some (.cells #[.int .i64 a0_0, .int .i64 a0_1, .bool a0_2, .int .i64 a0_3, .int .i64 a0_4] 141 (0, 0))) ∧ Aside0 (Below w.heap.size w wc))
  case first =>
    have H := HC2.out
    clear HC2
    replace H := Option.bind_eq_some_iff.mp H
    obtain ⟨t277, A40, H⟩ := H
    replace H : (if t277 = true then ((metrolabref47_size.f a0_4).bind fun t278 => (metrolabref47_limits.j0 k (!t278) a0_0 a0_1 a0_2 a0_3 a0_4)) else (metrolabref47_limits.j0 k true a0_0 a0_1 a0_2 a0_3 a0_4)) = some r := H
    have A4 := Aside0.mk A40
    clear A40
    by_cases c5 : t277 = true
    · subst c5
      have H1 : ((metrolabref47_size.f a0_4).bind fun t278 => (metrolabref47_limits.j0 k (!t278) a0_0 a0_1 a0_2 a0_3 a0_4)) = some r := by rw [if_pos rfl] at H; exact H
      clear H
      have H := H1
      clear H1
      replace H := Option.bind_eq_some_iff.mp H
      obtain ⟨t278, A60, H⟩ := H
      replace H : (metrolabref47_limits.j0 k (!t278) a0_0 a0_1 a0_2 a0_3 a0_4) = some r := H
      have A6 := Aside0.mk A60
      clear A60
      have H' := Aside0.mk H
      clear H
      have hcz7_0 : w3.cell? ⟨gb276, 0, none⟩ = some (.int .i64 a0_0) := (blk_cell BK276.out 0).trans rfl
      have hcz7_1 : w3.cell? ⟨gb276, 1, none⟩ = some (.int .i64 a0_1) := (blk_cell BK276.out 1).trans rfl
      have hcz7_2 : w3.cell? ⟨gb276, 2, none⟩ = some (.bool a0_2) := (blk_cell BK276.out 2).trans rfl
      have hcz7_3 : w3.cell? ⟨gb276, 3, none⟩ = some (.int .i64 a0_3) := (blk_cell BK276.out 3).trans rfl
      have hcz7_4 : w3.cell? ⟨gb276, 4, none⟩ = some (.int .i64 a0_4) := (blk_cell BK276.out 4).trans rfl
      have hfz7_0 := blk_frozen BK276.out 0
      have hfz7_1 := blk_frozen BK276.out 1
      have hfz7_2 := blk_frozen BK276.out 2
      have hfz7_3 := blk_frozen BK276.out 3
      have hfz7_4 := blk_frozen BK276.out 4
      go_wp2_with (first | ((with_reducible refine gate_callee (f := 103) rfl ?_); refine goesL_ (some 6) rfl rfl Tryd.func103 (by kernel_rfl) rfl #[.int .i64 a0_3] rfl (by (try simp only [List.map_toArray, List.map_cons, List.map_nil]); first | done | rfl | (simp only [List.length_drop, List.length_take]; rfl)) ?_; (with_reducible refine (metrolabref47_size.calls a0_3 true _ A4.out).mono ?_); rintro e w' ⟨rfl, ⟨nd, rfl⟩⟩; refine ⟨_, rfl, ?_⟩) | (go_at_call 103; (with_reducible refine (metrolabref47_size.calls a0_4 t278 _ A6.out).mono ?_); rintro e w' ⟨rfl, ⟨nd, rfl⟩⟩))
      go_meet
      case rel => exact ⟨_, (!t278), (by first | rfl | (simp; done) | (simp [*]; done)), H', ⟨by first | omega | exact Nat.le_refl _⟩, ⟨by (with_reducible repeat (first | refine blk_drewN ?_ _ | refine blk_drew ?_ | refine blk_alloc ?_ _)); exact BK276.out⟩, ⟨by repeat (first | (with_reducible first | exact HB.out | apply below_alloc | apply pw_below_drewN | apply below_drew1 | refine below_set ?_ GE276.out) | exact HB.out)⟩⟩
    · replace c5 := Bool.eq_false_iff.mpr c5
      subst c5
      have H1 : (metrolabref47_limits.j0 k true a0_0 a0_1 a0_2 a0_3 a0_4) = some r := by rw [if_neg (show ¬ (false = true) by decide)] at H; exact H
      clear H
      have H := H1
      clear H1
      have H' := Aside0.mk H
      clear H
      have hcz8_0 : w3.cell? ⟨gb276, 0, none⟩ = some (.int .i64 a0_0) := (blk_cell BK276.out 0).trans rfl
      have hcz8_1 : w3.cell? ⟨gb276, 1, none⟩ = some (.int .i64 a0_1) := (blk_cell BK276.out 1).trans rfl
      have hcz8_2 : w3.cell? ⟨gb276, 2, none⟩ = some (.bool a0_2) := (blk_cell BK276.out 2).trans rfl
      have hcz8_3 : w3.cell? ⟨gb276, 3, none⟩ = some (.int .i64 a0_3) := (blk_cell BK276.out 3).trans rfl
      have hcz8_4 : w3.cell? ⟨gb276, 4, none⟩ = some (.int .i64 a0_4) := (blk_cell BK276.out 4).trans rfl
      have hfz8_0 := blk_frozen BK276.out 0
      have hfz8_1 := blk_frozen BK276.out 1
      have hfz8_2 := blk_frozen BK276.out 2
      have hfz8_3 := blk_frozen BK276.out 3
      have hfz8_4 := blk_frozen BK276.out 4
      go_wp2_with (first | ((with_reducible refine gate_callee (f := 103) rfl ?_); refine goesL_ (some 6) rfl rfl Tryd.func103 (by kernel_rfl) rfl #[.int .i64 a0_3] rfl (by (try simp only [List.map_toArray, List.map_cons, List.map_nil]); first | done | rfl | (simp only [List.length_drop, List.length_take]; rfl)) ?_; (with_reducible refine (metrolabref47_size.calls a0_3 false _ A4.out).mono ?_); rintro e w' ⟨rfl, ⟨nd, rfl⟩⟩; refine ⟨_, rfl, ?_⟩))
      go_meet
      case rel => exact ⟨_, (true), (by first | rfl | (simp; done) | (simp [*]; done)), H', ⟨by first | omega | exact Nat.le_refl _⟩, ⟨by (with_reducible repeat (first | refine blk_drewN ?_ _ | refine blk_drew ?_ | refine blk_alloc ?_ _)); exact BK276.out⟩, ⟨by repeat (first | (with_reducible first | exact HB.out | apply below_alloc | apply pw_below_drewN | apply below_drew1 | refine below_set ?_ GE276.out) | exact HB.out)⟩⟩
  case rest =>
    clear HC2
    try clear c1
    try clear p2
    try clear c5
    try clear hcz7_0
    try clear hcz7_1
    try clear hcz7_2
    try clear hcz7_3
    try clear hcz7_4
    try clear hcz8_0
    try clear hcz8_1
    try clear hcz8_2
    try clear hcz8_3
    try clear hcz8_4
    try clear hfz7_0
    try clear hfz7_1
    try clear hfz7_2
    try clear hfz7_3
    try clear hfz7_4
    try clear hfz8_0
    try clear hfz8_1
    try clear hfz8_2
    try clear hfz8_3
    try clear hfz8_4
    obtain ⟨kq, x14_1, rfl, HA, HJ1, BK276, HB⟩ := hcut
    cases kq with
    | zero => exact absurd HA.out (by simp [metrolabref47_limits.j0])
    | succ kj1 =>
      have H := HA.out
      clear HA
      simp only [metrolabref47_limits.j0] at H
      by_cases c9 : x14_1 = true
      · subst c9
        have H1 : (some 2) = some r := by rw [if_pos rfl] at H; exact H
        clear H
        have H := H1
        clear H1
        obtain rfl := Option.some.inj H
        go_wp2
        go_ret
        exact ⟨by first | rfl | (simp [errW_none, errW_some] <;> rfl) | (simp [*, errW_none, errW_some] <;> rfl), by repeat (first | (with_reducible first | exact HB.out | apply below_alloc | apply pw_below_drewN | apply below_drew1 | refine below_set ?_ GE276.out) | exact HB.out)⟩
      · replace c9 := Bool.eq_false_iff.mpr c9
        subst c9
        have H1 : (if a0_3 > a0_4 then (some 9) else (some 0)) = some r := by rw [if_neg (show ¬ (false = true) by decide)] at H; exact H
        clear H
        have H := H1
        clear H1
        by_cases c10 : a0_3 > a0_4
        · rw [if_pos c10] at H
          have c10b0 : decide (a0_4 < a0_3) = true := decide_eq_true c10
          clear c10
          obtain rfl := Option.some.inj H
          have hcz11_0 : wc.cell? ⟨gb276, 0, none⟩ = some (.int .i64 a0_0) := (blk_cell BK276.out 0).trans rfl
          have hcz11_1 : wc.cell? ⟨gb276, 1, none⟩ = some (.int .i64 a0_1) := (blk_cell BK276.out 1).trans rfl
          have hcz11_2 : wc.cell? ⟨gb276, 2, none⟩ = some (.bool a0_2) := (blk_cell BK276.out 2).trans rfl
          have hcz11_3 : wc.cell? ⟨gb276, 3, none⟩ = some (.int .i64 a0_3) := (blk_cell BK276.out 3).trans rfl
          have hcz11_4 : wc.cell? ⟨gb276, 4, none⟩ = some (.int .i64 a0_4) := (blk_cell BK276.out 4).trans rfl
          have hfz11_0 := blk_frozen BK276.out 0
          have hfz11_1 := blk_frozen BK276.out 1
          have hfz11_2 := blk_frozen BK276.out 2
          have hfz11_3 := blk_frozen BK276.out 3
          have hfz11_4 := blk_frozen BK276.out 4
          go_wp2
          go_ret
          exact ⟨by first | rfl | (simp [errW_none, errW_some] <;> rfl) | (simp [*, errW_none, errW_some] <;> rfl), by repeat (first | (with_reducible first | exact HB.out | apply below_alloc | apply pw_below_drewN | apply below_drew1 | refine below_set ?_ GE276.out) | exact HB.out)⟩
        · rw [if_neg c10] at H
          have c10b0 : decide (a0_4 < a0_3) = false := decide_eq_false c10
          clear c10
          obtain rfl := Option.some.inj H
          have hcz12_0 : wc.cell? ⟨gb276, 0, none⟩ = some (.int .i64 a0_0) := (blk_cell BK276.out 0).trans rfl
          have hcz12_1 : wc.cell? ⟨gb276, 1, none⟩ = some (.int .i64 a0_1) := (blk_cell BK276.out 1).trans rfl
          have hcz12_2 : wc.cell? ⟨gb276, 2, none⟩ = some (.bool a0_2) := (blk_cell BK276.out 2).trans rfl
          have hcz12_3 : wc.cell? ⟨gb276, 3, none⟩ = some (.int .i64 a0_3) := (blk_cell BK276.out 3).trans rfl
          have hcz12_4 : wc.cell? ⟨gb276, 4, none⟩ = some (.int .i64 a0_4) := (blk_cell BK276.out 4).trans rfl
          have hfz12_0 := blk_frozen BK276.out 0
          have hfz12_1 := blk_frozen BK276.out 1
          have hfz12_2 := blk_frozen BK276.out 2
          have hfz12_3 := blk_frozen BK276.out 3
          have hfz12_4 := blk_frozen BK276.out 4
          go_wp2
          go_ret
          exact ⟨by first | rfl | (simp [errW_none, errW_some] <;> rfl) | (simp [*, errW_none, errW_some] <;> rfl), by repeat (first | (with_reducible first | exact HB.out | apply below_alloc | apply pw_below_drewN | apply below_drew1 | refine below_set ?_ GE276.out) | exact HB.out)⟩
def metrolabref47_Beyond.f (a0_0 : Int) (a0_1 : Int) (a0_2 : Int) (a0_3 : Int) (a0_4 : Int) (a0_5 : Int) (a0_6 : Bool) (a1 : Int) : Option (Bool) := if a0_6 = true then ((metrolabref44_Gauge.f a0_0 a0_1 a0_2 a0_3 a0_4 a0_5 a0_6).bind fun t280 => (some (decide (a1 > t280)))) else ((metrolabref44_Gauge.f a0_0 a0_1 a0_2 a0_3 a0_4 a0_5 a0_6).bind fun t281 => (some (decide (a1 < t281))))
set_option maxHeartbeats 8000000 in
set_option maxRecDepth 100000 in
theorem metrolabref47_Beyond.calls (a0_0 : Int) (a0_1 : Int) (a0_2 : Int) (a0_3 : Int) (a0_4 : Int) (a0_5 : Int) (a0_6 : Bool) (a1 : Int) (r : Bool) (w : World) (h : metrolabref47_Beyond.f a0_0 a0_1 a0_2 a0_3 a0_4 a0_5 a0_6 a1 = some r) :
    Calls Tryd.prog 102 #[.agg #[.int .i64 a0_0, .int .i64 a0_1, .int .i64 a0_2, .int .i64 a0_3, .int .i64 a0_4, .int .i64 a0_5, .bool a0_6], .int .i64 a1] w fun e w' => e = .returned (.bool r) ∧ Below w.heap.size w w' := by
  have hu27 := Tryd.underlying27
  have HB := Aside0.mk (Below.refl w.heap.size w)
  have H : (if a0_6 = true then ((metrolabref44_Gauge.f a0_0 a0_1 a0_2 a0_3 a0_4 a0_5 a0_6).bind fun t280 => (some (decide (a1 > t280)))) else ((metrolabref44_Gauge.f a0_0 a0_1 a0_2 a0_3 a0_4 a0_5 a0_6).bind fun t281 => (some (decide (a1 < t281))))) = some r := h
  clear h
  by_cases c3 : a0_6 = true
  · subst c3
    have H1 : ((metrolabref44_Gauge.f a0_0 a0_1 a0_2 a0_3 a0_4 a0_5 true).bind fun t280 => (some (decide (a1 > t280)))) = some r := by rw [if_pos rfl] at H; exact H
    clear H
    have H := H1
    clear H1
    replace H := Option.bind_eq_some_iff.mp H
    obtain ⟨t280, A40, H⟩ := H
    replace H : (some (decide (a1 > t280))) = some r := H
    have A4 := Aside0.mk A40
    clear A40
    obtain rfl := Option.some.inj H
    go_enter Tryd.func102, Tryd.ntmps102
    go_wp2_with (first | ((with_reducible refine gate_dst (N := 2) rfl ?_); refine box_event ?hg (N := 2) ?hd (cs := #[.int .i64 a0_0, .int .i64 a0_1, .int .i64 a0_2, .int .i64 a0_3, .int .i64 a0_4, .int .i64 a0_5, .bool true]) (t := 27) ?hr ?_; (case hd => rfl); (case hg => rfl); (case hr => first | (go_simp; done) | (go_simp; rfl)); intro gb279 hg w5 hbox hb; have n0_ := Aside0.mk (below_step (by repeat (first | (with_reducible first | exact HB.out | apply below_alloc | apply pw_below_drewN | apply below_drew1) | exact HB.out)) hb); have n1_ := Aside0.mk (hbox); have n2_ := Aside0.mk ((by rw [hg]; exact (below_size (by repeat (first | (with_reducible first | exact HB.out | apply below_alloc | apply pw_below_drewN | apply below_drew1) | exact HB.out))) : w.heap.size ≤ gb279)); have n3_ := Aside0.mk ((by rw [hg]; exact (below_size (by repeat (first | (with_reducible first | exact HB.out | apply below_alloc | apply pw_below_drewN | apply below_drew1) | exact HB.out))) : w.heap.size ≤ gb279)); clear HB; have HB := n0_; have BK279 := n1_; have GW279 := n2_; have GE279 := n3_; clear n0_ n1_ n2_ n3_; clear hb hbox hg; have hcz6_0 : w5.cell? ⟨gb279, 0, none⟩ = some (.int .i64 a0_0) := (blk_cell BK279.out 0).trans rfl; have hcz6_1 : w5.cell? ⟨gb279, 1, none⟩ = some (.int .i64 a0_1) := (blk_cell BK279.out 1).trans rfl; have hcz6_2 : w5.cell? ⟨gb279, 2, none⟩ = some (.int .i64 a0_2) := (blk_cell BK279.out 2).trans rfl; have hcz6_3 : w5.cell? ⟨gb279, 3, none⟩ = some (.int .i64 a0_3) := (blk_cell BK279.out 3).trans rfl; have hcz6_4 : w5.cell? ⟨gb279, 4, none⟩ = some (.int .i64 a0_4) := (blk_cell BK279.out 4).trans rfl; have hcz6_5 : w5.cell? ⟨gb279, 5, none⟩ = some (.int .i64 a0_5) := (blk_cell BK279.out 5).trans rfl; have hcz6_6 : w5.cell? ⟨gb279, 6, none⟩ = some (.bool true) := (blk_cell BK279.out 6).trans rfl; have hfz6_0 := blk_frozen BK279.out 0; have hfz6_1 := blk_frozen BK279.out 1; have hfz6_2 := blk_frozen BK279.out 2; have hfz6_3 := blk_frozen BK279.out 3; have hfz6_4 := blk_frozen BK279.out 4; have hfz6_5 := blk_frozen BK279.out 5; have hfz6_6 := blk_frozen BK279.out 6) | ((with_reducible refine gate_callee (f := 69) rfl ?_); refine goesL_ (some 9) rfl rfl Tryd.func69 (by kernel_rfl) rfl #[.agg #[.int .i64 a0_0, .int .i64 a0_1, .int .i64 a0_2, .int .i64 a0_3, .int .i64 a0_4, .int .i64 a0_5, .bool true]] rfl (by (try simp only [List.map_toArray, List.map_cons, List.map_nil]); first | done | rfl | (simp only [List.length_drop, List.length_take]; rfl)) ?_; (with_reducible refine (metrolabref44_Gauge.calls a0_0 a0_1 a0_2 a0_3 a0_4 a0_5 true t280 _ A4.out).mono ?_); rintro e w7 ⟨rfl, hb⟩; refine ⟨_, rfl, ?_⟩; have n0_ := Aside0.mk (blk_below (g := gb279) (o := .cells #[.int .i64 a0_0, .int .i64 a0_1, .int .i64 a0_2, .int .i64 a0_3, .int .i64 a0_4, .int .i64 a0_5, .bool true] 27 (0, 0)) (by (with_reducible repeat (first | refine blk_drewN ?_ _ | refine blk_drew ?_ | refine blk_alloc ?_ _)); exact BK279.out) hb); have n1_ := Aside0.mk (below_step (by repeat (first | (with_reducible first | exact HB.out | apply below_alloc | apply pw_below_drewN | apply below_drew1 | refine below_set ?_ GE279.out) | exact HB.out)) hb); clear BK279; clear HB; have BK279 := n0_; have HB := n1_; clear n0_ n1_; (try clear hb); (try clear hb2); (try clear hk); (try clear hi)))
    go_ret
    exact ⟨by first | rfl | (simp [errW_none, errW_some] <;> rfl) | (simp [*, errW_none, errW_some] <;> rfl), by repeat (first | (with_reducible first | exact HB.out | apply below_alloc | apply pw_below_drewN | apply below_drew1 | refine below_set ?_ GE279.out) | exact HB.out)⟩
  · replace c3 := Bool.eq_false_iff.mpr c3
    subst c3
    have H1 : ((metrolabref44_Gauge.f a0_0 a0_1 a0_2 a0_3 a0_4 a0_5 false).bind fun t281 => (some (decide (a1 < t281)))) = some r := by rw [if_neg (show ¬ (false = true) by decide)] at H; exact H
    clear H
    have H := H1
    clear H1
    replace H := Option.bind_eq_some_iff.mp H
    obtain ⟨t281, A80, H⟩ := H
    replace H : (some (decide (a1 < t281))) = some r := H
    have A8 := Aside0.mk A80
    clear A80
    obtain rfl := Option.some.inj H
    go_enter Tryd.func102, Tryd.ntmps102
    go_wp2_with (first | ((with_reducible refine gate_dst (N := 2) rfl ?_); refine box_event ?hg (N := 2) ?hd (cs := #[.int .i64 a0_0, .int .i64 a0_1, .int .i64 a0_2, .int .i64 a0_3, .int .i64 a0_4, .int .i64 a0_5, .bool false]) (t := 27) ?hr ?_; (case hd => rfl); (case hg => rfl); (case hr => first | (go_simp; done) | (go_simp; rfl)); intro gb279 hg w9 hbox hb; have n0_ := Aside0.mk (below_step (by repeat (first | (with_reducible first | exact HB.out | apply below_alloc | apply pw_below_drewN | apply below_drew1) | exact HB.out)) hb); have n1_ := Aside0.mk (hbox); have n2_ := Aside0.mk ((by rw [hg]; exact (below_size (by repeat (first | (with_reducible first | exact HB.out | apply below_alloc | apply pw_below_drewN | apply below_drew1) | exact HB.out))) : w.heap.size ≤ gb279)); have n3_ := Aside0.mk ((by rw [hg]; exact (below_size (by repeat (first | (with_reducible first | exact HB.out | apply below_alloc | apply pw_below_drewN | apply below_drew1) | exact HB.out))) : w.heap.size ≤ gb279)); clear HB; have HB := n0_; have BK279 := n1_; have GW279 := n2_; have GE279 := n3_; clear n0_ n1_ n2_ n3_; clear hb hbox hg; have hcz10_0 : w9.cell? ⟨gb279, 0, none⟩ = some (.int .i64 a0_0) := (blk_cell BK279.out 0).trans rfl; have hcz10_1 : w9.cell? ⟨gb279, 1, none⟩ = some (.int .i64 a0_1) := (blk_cell BK279.out 1).trans rfl; have hcz10_2 : w9.cell? ⟨gb279, 2, none⟩ = some (.int .i64 a0_2) := (blk_cell BK279.out 2).trans rfl; have hcz10_3 : w9.cell? ⟨gb279, 3, none⟩ = some (.int .i64 a0_3) := (blk_cell BK279.out 3).trans rfl; have hcz10_4 : w9.cell? ⟨gb279, 4, none⟩ = some (.int .i64 a0_4) := (blk_cell BK279.out 4).trans rfl; have hcz10_5 : w9.cell? ⟨gb279, 5, none⟩ = some (.int .i64 a0_5) := (blk_cell BK279.out 5).trans rfl; have hcz10_6 : w9.cell? ⟨gb279, 6, none⟩ = some (.bool false) := (blk_cell BK279.out 6).trans rfl; have hfz10_0 := blk_frozen BK279.out 0; have hfz10_1 := blk_frozen BK279.out 1; have hfz10_2 := blk_frozen BK279.out 2; have hfz10_3 := blk_frozen BK279.out 3; have hfz10_4 := blk_frozen BK279.out 4; have hfz10_5 := blk_frozen BK279.out 5; have hfz10_6 := blk_frozen BK279.out 6) | ((with_reducible refine gate_callee (f := 69) rfl ?_); refine goesL_ (some 13) rfl rfl Tryd.func69 (by kernel_rfl) rfl #[.agg #[.int .i64 a0_0, .int .i64 a0_1, .int .i64 a0_2, .int .i64 a0_3, .int .i64 a0_4, .int .i64 a0_5, .bool false]] rfl (by (try simp only [List.map_toArray, List.map_cons, List.map_nil]); first | done | rfl | (simp only [List.length_drop, List.length_take]; rfl)) ?_; (with_reducible refine (metrolabref44_Gauge.calls a0_0 a0_1 a0_2 a0_3 a0_4 a0_5 false t281 _ A8.out).mono ?_); rintro e w11 ⟨rfl, hb⟩; refine ⟨_, rfl, ?_⟩; have n0_ := Aside0.mk (blk_below (g := gb279) (o := .cells #[.int .i64 a0_0, .int .i64 a0_1, .int .i64 a0_2, .int .i64 a0_3, .int .i64 a0_4, .int .i64 a0_5, .bool false] 27 (0, 0)) (by (with_reducible repeat (first | refine blk_drewN ?_ _ | refine blk_drew ?_ | refine blk_alloc ?_ _)); exact BK279.out) hb); have n1_ := Aside0.mk (below_step (by repeat (first | (with_reducible first | exact HB.out | apply below_alloc | apply pw_below_drewN | apply below_drew1 | refine below_set ?_ GE279.out) | exact HB.out)) hb); clear BK279; clear HB; have BK279 := n0_; have HB := n1_; clear n0_ n1_; (try clear hb); (try clear hb2); (try clear hk); (try clear hi)))
    go_ret
    exact ⟨by first | rfl | (simp [errW_none, errW_some] <;> rfl) | (simp [*, errW_none, errW_some] <;> rfl), by repeat (first | (with_reducible first | exact HB.out | apply below_alloc | apply pw_below_drewN | apply below_drew1 | refine below_set ?_ GE279.out) | exact HB.out)⟩
end Go.Proofs.YtjemaonejkepcaaDoor.G
