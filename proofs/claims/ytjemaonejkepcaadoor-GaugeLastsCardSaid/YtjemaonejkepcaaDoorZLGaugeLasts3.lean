/- Texts of the law GaugeLasts, laid together by a program of this session; what is not reached is cut. In it: words that the kit's print.sh printed, contracts of Go functions printed over the kit's printer, our own laws. Not trusted: Lean checks them. -/
import Derived.Test.YtjemaonejkepcaaDoorZLGaugeLasts2
namespace Go.Proofs.YtjemaonejkepcaaDoor.G
open Go.Proofs.YtjemaonejkepcaaDoor.B
open Go.RowKit Go.Proofs.YtjemaonejkepcaaDoorW.PrintWords Go.Proofs.YtjemaonejkepcaaDoorW.PrintLast Go.Proofs.YtjemaonejkepcaaDoorW.PrintMore
attribute [local go_sem] max2_int min2_int max_two min_two max_three min_three max_four min_four   -- for this text's walks alone
set_option linter.unusedVariables false
set_option linter.unusedSimpArgs false
def gauge_ranged.f (a0 : Int) : Option (Bool) := if a0 ≥ 1 then (some (decide (a0 ≤ 300000))) else (some false)
set_option maxHeartbeats 8000000 in
set_option maxRecDepth 100000 in
theorem gauge_ranged.calls (a0 : Int) (r : Bool) (w : World) (h : gauge_ranged.f a0 = some r) :
    Calls Tryd.prog 90 #[.int .i64 a0] w fun e w' => e = .returned (.bool r) ∧ Drawn0 w w' := by
  have H : (if a0 ≥ 1 then (some (decide (a0 ≤ 300000))) else (some false)) = some r := h
  clear h
  by_cases c2 : a0 ≥ 1
  · rw [if_pos c2] at H
    have c2b0 : decide (1 ≤ a0) = true := decide_eq_true c2
    clear c2
    obtain rfl := Option.some.inj H
    go_enter Tryd.func90, Tryd.ntmps90
    go_wp2
    go_ret
    exact ⟨by first | rfl | (simp; done) | (simp [*]; done), by repeat (first | exact Drawn0.refl _ | apply Drawn0.step)⟩
  · rw [if_neg c2] at H
    have c2b0 : decide (1 ≤ a0) = false := decide_eq_false c2
    clear c2
    obtain rfl := Option.some.inj H
    go_enter Tryd.func90, Tryd.ntmps90
    go_wp2
    go_ret
    exact ⟨by first | rfl | (simp; done) | (simp [*]; done), by repeat (first | exact Drawn0.refl _ | apply Drawn0.step)⟩
def gauge_limits.j0 : Nat → Bool → Int → Int → Option (Int)
  | 0, _, _, _ => none
  | k + 1, x3, x129000, x129001 => if x3 = true then (some 2) else (if x129000 > x129001 then (some 9) else (some 0))
def gauge_limits.f (k : Nat) (a0_0 : Int) (a0_1 : Int) : Option (Int) := (gauge_ranged.f a0_0).bind fun t129 => (if t129 = true then ((gauge_ranged.f a0_1).bind fun t130 => (gauge_limits.j0 k (!t130) a0_0 a0_1)) else (gauge_limits.j0 k true a0_0 a0_1))
theorem gauge_limits.mono_l : ∀ k, (∀ y0 y1 y2, LeO (gauge_limits.j0 k y0 y1 y2) (gauge_limits.j0 (k + 1) y0 y1 y2))
  | 0 => fun _ _ _ r h => by simp [gauge_limits.j0] at h
  | k + 1 => by
    have ih0 := gauge_limits.mono_l k
    · intro y0 y1 y2
      unfold gauge_limits.j0
      repeat' first
      | (with_reducible exact ih0 _ _ _)
      | (with_reducible exact LeO.refl _)
      | (with_reducible exact LeO.none _)
      | (with_reducible refine LeO.ite ?_ ?_)
      | (with_reducible refine LeO.bind ?_ (fun _ => ?_))
      | exact ih0 _ _ _
      | exact LeO.none _
      | refine LeO.ite ?_ ?_
      | refine LeO.bind ?_ (fun _ => ?_)
theorem gauge_limits.mono : ∀ a0 a1 k, LeO (gauge_limits.f k a0 a1) (gauge_limits.f (k + 1) a0 a1) := by
  intro a0 a1 k
  have ih0 := gauge_limits.mono_l k
  unfold gauge_limits.f
  repeat' first
      | (with_reducible exact ih0 _ _ _)
      | (with_reducible exact LeO.refl _)
      | (with_reducible exact LeO.none _)
      | (with_reducible refine LeO.ite ?_ ?_)
      | (with_reducible refine LeO.bind ?_ (fun _ => ?_))
      | exact ih0 _ _ _
      | exact LeO.none _
      | refine LeO.ite ?_ ?_
      | refine LeO.bind ?_ (fun _ => ?_)
set_option maxHeartbeats 8000000 in
set_option maxRecDepth 100000 in
theorem gauge_limits.calls (k : Nat) (a0_0 : Int) (a0_1 : Int) (r : Int) (w : World) (h : gauge_limits.f k a0_0 a0_1 = some r) :
    Calls Tryd.prog 87 #[.agg #[.int .i64 a0_0, .int .i64 a0_1]] w fun e w' => e = .returned (.int .i64 r) ∧ Below w.heap.size w w' := by
  have hu25 := Tryd.underlying25
  have HB := Aside0.mk (Below.refl w.heap.size w)
  have H : ((gauge_ranged.f a0_0).bind fun t129 => (if t129 = true then ((gauge_ranged.f a0_1).bind fun t130 => (gauge_limits.j0 k (!t130) a0_0 a0_1)) else (gauge_limits.j0 k true a0_0 a0_1))) = some r := h
  clear h
  have HC2 := Aside0.mk H
  clear H
  go_enter Tryd.func87, Tryd.ntmps87
  go_upto_region 1 with (first | ((with_reducible refine gate_dst (N := 1) rfl ?_); refine box_event ?hg (N := 1) ?hd (cs := #[.int .i64 a0_0, .int .i64 a0_1]) (t := 25) ?hr ?_; (case hd => rfl); (case hg => rfl); (case hr => first | (go_simp; done) | (go_simp; rfl)); intro gb128 hg w3 hbox hb; have n0_ := Aside0.mk (below_step (by repeat (first | (with_reducible first | exact HB.out | apply below_alloc | apply pw_below_drewN | apply below_drew1) | exact HB.out)) hb); have n1_ := Aside0.mk (hbox); have n2_ := Aside0.mk ((by rw [hg]; exact (below_size (by repeat (first | (with_reducible first | exact HB.out | apply below_alloc | apply pw_below_drewN | apply below_drew1) | exact HB.out))) : w.heap.size ≤ gb128)); have n3_ := Aside0.mk ((by rw [hg]; exact (below_size (by repeat (first | (with_reducible first | exact HB.out | apply below_alloc | apply pw_below_drewN | apply below_drew1) | exact HB.out))) : w.heap.size ≤ gb128)); clear HB; have HB := n0_; have BK128 := n1_; have GW128 := n2_; have GE128 := n3_; clear n0_ n1_ n2_ n3_; clear hb hbox hg))
  (try simp only [Act.put, List.setIfInBounds_toArray, List.set_cons_zero, List.set_cons_succ])
  go_cut [3] (fun v3 wc => ∃ (kq : Nat) (x3_1 : Bool), v3 = .bool x3_1 ∧ Aside0 (gauge_limits.j0 kq x3_1 a0_0 a0_1 = some r) ∧ Aside0 (kq ≤ k) ∧ Aside0 (wc.heap[gb128]? = some (.cells #[.int .i64 a0_0, .int .i64 a0_1] 25 (0, 0))) ∧ Aside0 (Below w.heap.size w wc))
  case first =>
    have H := HC2.out
    clear HC2
    replace H := Option.bind_eq_some_iff.mp H
    obtain ⟨t129, A40, H⟩ := H
    replace H : (if t129 = true then ((gauge_ranged.f a0_1).bind fun t130 => (gauge_limits.j0 k (!t130) a0_0 a0_1)) else (gauge_limits.j0 k true a0_0 a0_1)) = some r := H
    have A4 := Aside0.mk A40
    clear A40
    by_cases c5 : t129 = true
    · subst c5
      have H1 : ((gauge_ranged.f a0_1).bind fun t130 => (gauge_limits.j0 k (!t130) a0_0 a0_1)) = some r := by rw [if_pos rfl] at H; exact H
      clear H
      have H := H1
      clear H1
      replace H := Option.bind_eq_some_iff.mp H
      obtain ⟨t130, A60, H⟩ := H
      replace H : (gauge_limits.j0 k (!t130) a0_0 a0_1) = some r := H
      have A6 := Aside0.mk A60
      clear A60
      have H' := Aside0.mk H
      clear H
      have hcz7_0 : w3.cell? ⟨gb128, 0, none⟩ = some (.int .i64 a0_0) := (blk_cell BK128.out 0).trans rfl
      have hcz7_1 : w3.cell? ⟨gb128, 1, none⟩ = some (.int .i64 a0_1) := (blk_cell BK128.out 1).trans rfl
      have hfz7_0 := blk_frozen BK128.out 0
      have hfz7_1 := blk_frozen BK128.out 1
      go_wp2_with (first | ((with_reducible refine gate_callee (f := 90) rfl ?_); refine goesL_ (some 6) rfl rfl Tryd.func90 (by kernel_rfl) rfl #[.int .i64 a0_0] rfl (by (try simp only [List.map_toArray, List.map_cons, List.map_nil]); first | done | rfl | (simp only [List.length_drop, List.length_take]; rfl)) ?_; (with_reducible refine (gauge_ranged.calls a0_0 true _ A4.out).mono ?_); rintro e w' ⟨rfl, ⟨nd, rfl⟩⟩; refine ⟨_, rfl, ?_⟩) | (go_at_call 90; (with_reducible refine (gauge_ranged.calls a0_1 t130 _ A6.out).mono ?_); rintro e w' ⟨rfl, ⟨nd, rfl⟩⟩))
      go_meet
      case rel => exact ⟨_, (!t130), (by first | rfl | (simp; done) | (simp [*]; done)), H', ⟨by first | omega | exact Nat.le_refl _⟩, ⟨by (with_reducible repeat (first | refine blk_drewN ?_ _ | refine blk_drew ?_ | refine blk_alloc ?_ _)); exact BK128.out⟩, ⟨by repeat (first | (with_reducible first | exact HB.out | apply below_alloc | apply pw_below_drewN | apply below_drew1 | refine below_set ?_ GE128.out) | exact HB.out)⟩⟩
    · replace c5 := Bool.eq_false_iff.mpr c5
      subst c5
      have H1 : (gauge_limits.j0 k true a0_0 a0_1) = some r := by rw [if_neg (show ¬ (false = true) by decide)] at H; exact H
      clear H
      have H := H1
      clear H1
      have H' := Aside0.mk H
      clear H
      have hcz8_0 : w3.cell? ⟨gb128, 0, none⟩ = some (.int .i64 a0_0) := (blk_cell BK128.out 0).trans rfl
      have hcz8_1 : w3.cell? ⟨gb128, 1, none⟩ = some (.int .i64 a0_1) := (blk_cell BK128.out 1).trans rfl
      have hfz8_0 := blk_frozen BK128.out 0
      have hfz8_1 := blk_frozen BK128.out 1
      go_wp2_with (first | ((with_reducible refine gate_callee (f := 90) rfl ?_); refine goesL_ (some 6) rfl rfl Tryd.func90 (by kernel_rfl) rfl #[.int .i64 a0_0] rfl (by (try simp only [List.map_toArray, List.map_cons, List.map_nil]); first | done | rfl | (simp only [List.length_drop, List.length_take]; rfl)) ?_; (with_reducible refine (gauge_ranged.calls a0_0 false _ A4.out).mono ?_); rintro e w' ⟨rfl, ⟨nd, rfl⟩⟩; refine ⟨_, rfl, ?_⟩))
      go_meet
      case rel => exact ⟨_, (true), (by first | rfl | (simp; done) | (simp [*]; done)), H', ⟨by first | omega | exact Nat.le_refl _⟩, ⟨by (with_reducible repeat (first | refine blk_drewN ?_ _ | refine blk_drew ?_ | refine blk_alloc ?_ _)); exact BK128.out⟩, ⟨by repeat (first | (with_reducible first | exact HB.out | apply below_alloc | apply pw_below_drewN | apply below_drew1 | refine below_set ?_ GE128.out) | exact HB.out)⟩⟩
  case rest =>
    clear HC2
    try clear p2
    try clear c5
    try clear c8
    try clear hcz7_0
    try clear hcz7_1
    try clear hcz8_0
    try clear hcz8_1
    try clear hfz7_0
    try clear hfz7_1
    try clear hfz8_0
    try clear hfz8_1
    obtain ⟨kq, x3_1, rfl, HA, HJ1, BK128, HB⟩ := hcut
    cases kq with
    | zero => exact absurd HA.out (by simp [gauge_limits.j0])
    | succ kj1 =>
      have H := HA.out
      clear HA
      simp only [gauge_limits.j0] at H
      by_cases c9 : x3_1 = true
      · subst c9
        have H1 : (some 2) = some r := by rw [if_pos rfl] at H; exact H
        clear H
        have H := H1
        clear H1
        obtain rfl := Option.some.inj H
        go_wp2
        go_ret
        exact ⟨by first | rfl | (simp [errW_none, errW_some] <;> rfl) | (simp [*, errW_none, errW_some] <;> rfl), by repeat (first | (with_reducible first | exact HB.out | apply below_alloc | apply pw_below_drewN | apply below_drew1 | refine below_set ?_ GE128.out) | exact HB.out)⟩
      · replace c9 := Bool.eq_false_iff.mpr c9
        subst c9
        have H1 : (if a0_0 > a0_1 then (some 9) else (some 0)) = some r := by rw [if_neg (show ¬ (false = true) by decide)] at H; exact H
        clear H
        have H := H1
        clear H1
        by_cases c10 : a0_0 > a0_1
        · rw [if_pos c10] at H
          have c10b0 : decide (a0_1 < a0_0) = true := decide_eq_true c10
          clear c10
          obtain rfl := Option.some.inj H
          have hcz11_0 : wc.cell? ⟨gb128, 0, none⟩ = some (.int .i64 a0_0) := (blk_cell BK128.out 0).trans rfl
          have hcz11_1 : wc.cell? ⟨gb128, 1, none⟩ = some (.int .i64 a0_1) := (blk_cell BK128.out 1).trans rfl
          have hfz11_0 := blk_frozen BK128.out 0
          have hfz11_1 := blk_frozen BK128.out 1
          go_wp2
          go_ret
          exact ⟨by first | rfl | (simp [errW_none, errW_some] <;> rfl) | (simp [*, errW_none, errW_some] <;> rfl), by repeat (first | (with_reducible first | exact HB.out | apply below_alloc | apply pw_below_drewN | apply below_drew1 | refine below_set ?_ GE128.out) | exact HB.out)⟩
        · rw [if_neg c10] at H
          have c10b0 : decide (a0_1 < a0_0) = false := decide_eq_false c10
          clear c10
          obtain rfl := Option.some.inj H
          have hcz12_0 : wc.cell? ⟨gb128, 0, none⟩ = some (.int .i64 a0_0) := (blk_cell BK128.out 0).trans rfl
          have hcz12_1 : wc.cell? ⟨gb128, 1, none⟩ = some (.int .i64 a0_1) := (blk_cell BK128.out 1).trans rfl
          have hfz12_0 := blk_frozen BK128.out 0
          have hfz12_1 := blk_frozen BK128.out 1
          go_wp2
          go_ret
          exact ⟨by first | rfl | (simp [errW_none, errW_some] <;> rfl) | (simp [*, errW_none, errW_some] <;> rfl), by repeat (first | (with_reducible first | exact HB.out | apply below_alloc | apply pw_below_drewN | apply below_drew1 | refine below_set ?_ GE128.out) | exact HB.out)⟩
end Go.Proofs.YtjemaonejkepcaaDoor.G
namespace Go.Proofs.YtjemaonejkepcaaDoor.G
open Go.Proofs.YtjemaonejkepcaaDoor.B
open Go.RowKit Go.Proofs.YtjemaonejkepcaaDoorW.PrintWords Go.Proofs.YtjemaonejkepcaaDoorW.PrintLast Go.Proofs.YtjemaonejkepcaaDoorW.PrintMore
attribute [local go_sem] max2_int min2_int max_two min_two max_three min_three max_four min_four   -- for this text's walks alone
set_option linter.unusedVariables false
set_option linter.unusedSimpArgs false
/-- What losses' closure knows: the targets and their virtual sizes; and where it captured them. -/
class Dat109 where
  l : List S27
  sz : List Int
class Adr109 where
  gl : Nat
  gs : Nat
  A : Option Addr
  c : Nat
  B : Option Addr
  d : Nat
def CapAt109 [q : Dat109] [a : Adr109] (w : World) : Prop := w.heap[a.gl]? = some (.cells #[.slice a.A q.l.length a.c] 42 (0, 0)) ∧ w.heap[a.gs]? = some (.cells #[.slice a.B q.sz.length a.d] 58 (0, 0)) ∧ Kd.C k27 w a.A q.l.length q.l ∧ Kd.C (Kd.int .i64) w a.B q.sz.length q.sz
theorem cap109_below [Dat109] [Adr109] {w w' : World} (h : CapAt109 w) (hb : Below w.heap.size w w') : CapAt109 w' := ⟨(hb.block _ (blk_lt h.1)).trans h.1, (hb.block _ (blk_lt h.2.1)).trans h.2.1, Kd.C_below h.2.2.1 hb, Kd.C_below h.2.2.2 hb⟩
def gauge_losses_1.f [q : Dat109] (a0 : Int) (x y : Int) (hole : Bool) (lo hi : Int) : Option (Int × Int × Int) :=
  if 0 ≤ a0 then if a0 < (q.l.length : Int) then if a0 < (q.sz.length : Int) then (gauge_limits.f 2 lo hi).bind fun t => if t = 0 then (if x = (rd_T27 q.l a0).f0.f0 ∧ y = (rd_T27 q.l a0).f0.f1 ∧ hole = (rd_T27 q.l a0).f4 then (if hole = true then some (wrap64 (rd q.sz a0 - hi), wrap64 (rd q.sz a0 - lo), 0) else some (wrap64 (lo - rd q.sz a0), wrap64 (hi - rd q.sz a0), 0)) else some (0, 0, 16)) else some (0, 0, t) else none else none else none
attribute [local go_sem high] eqA23
set_option maxHeartbeats 4000000 in
set_option maxRecDepth 100000 in
theorem gauge_losses_1.calls [q : Dat109] [a : Adr109] (a0 : Int) (x y : Int) (hole : Bool) (lo hi : Int) (r1 r2 r3 : Int) (w : World) (h : gauge_losses_1.f a0 x y hole lo hi = some (r1, r2, r3)) (hS : CapAt109 w) :
    Calls Tryd.prog 109 #[.int .i64 a0, .agg #[.int .i64 x, .int .i64 y, .bool hole, .int .i64 lo, .int .i64 hi], .pointer (some ⟨a.gl, 0, none⟩), .pointer (some ⟨a.gs, 0, none⟩)] w fun e w' => e = .returned (.tuple #[.agg #[.int .i64 r1, .int .i64 r2], .int .i64 r3]) ∧ Below w.heap.size w w' := by
  have hu104 := Tryd.underlying104
  have hu25 := Tryd.underlying25
  have hu27 := Tryd.underlying27
  unfold gauge_losses_1.f at h
  by_cases h0 : 0 ≤ a0
  · rw [if_pos h0] at h
    by_cases h1 : a0 < (q.l.length : Int)
    · rw [if_pos h1] at h
      by_cases h2 : a0 < (q.sz.length : Int)
      · rw [if_pos h2] at h
        obtain ⟨t, ht, h⟩ := Option.bind_eq_some_iff.mp h
        have A1 := Aside0.mk ht
        clear ht
        obtain ⟨adl, el, l0, l1, l2, l3, l4, l5, l6⟩ := at_T27 hS.2.2.1 a0 h0 h1
        obtain ⟨ads, es, s0⟩ := Kd.at_int hS.2.2.2 a0 h0 h2
        have g1 : w.cell? ⟨a.gl, 0, none⟩ = some (.slice (some adl) q.l.length a.c) := by rw [← el]; exact (blk_cell hS.1 0).trans rfl
        have g2 : w.cell? ⟨a.gs, 0, none⟩ = some (.slice (some ads) q.sz.length a.d) := by rw [← es]; exact (blk_cell hS.2.1 0).trans rfl
        clear hS el es l2 l3 l4 l5
        generalize (rd_T27 q.l a0).f0.f0 = X at *
        generalize (rd_T27 q.l a0).f0.f1 = Y at *
        generalize (rd_T27 q.l a0).f4 = P at *
        generalize rd q.sz a0 = z at *
        generalize q.l.length = nl at *
        generalize q.sz.length = ns at *
        by_cases ht : t = 0
        · subst ht
          rw [if_pos rfl] at h
          by_cases hA : (!(x == X) || (!(y == Y))) = true
          · have hne : ¬ (x = X ∧ y = Y ∧ hole = P) := by
              rintro ⟨rfl, rfl, _⟩; simp at hA
            rw [if_neg hne] at h
            simp at h
            obtain ⟨rfl, rfl, rfl⟩ := h
            clear hne
            go_enter Tryd.func109, Tryd.ntmps109
            go_upto_region 4 with (first
              | ((with_reducible refine gate_dst (N := 5) rfl ?_); refine box_event ?hg (N := 5) ?hd (cs := #[.int .i64 x, .int .i64 y, .bool hole, .int .i64 lo, .int .i64 hi]) (t := 104) ?hr ?_; (case hd => rfl); (case hg => rfl); (case hr => first | (go_simp; done) | (go_simp; rfl)); intro gb hg w3 hbox hb; have HB := Aside0.mk hb; have BK := Aside0.mk hbox; replace g1 := pw_cell_below hb g1; replace g2 := pw_cell_below hb g2; replace l0 := pw_cell_below hb l0; replace l1 := pw_cell_below hb l1; replace l6 := pw_cell_below hb l6; replace s0 := pw_cell_below hb s0; have GE := Aside0.mk (by rw [hg]; exact Nat.le_refl _ : w.heap.size ≤ gb); clear hg hbox hb)
              | ((with_reducible refine gate_dst (N := 6) rfl ?_); refine box_event ?hg (N := 6) ?hd (cs := #[.int .i64 0, .int .i64 0]) (t := 25) ?hr ?_; (case hd => rfl); (case hg => rfl); (case hr => first | (go_simp; done) | (go_simp; rfl)); intro gr hg w4 hbox hb; have N1 := Aside0.mk (by rw [hg]; exact World.new_ne _ _ g2 : gr ≠ Adr109.gs); have N2 := Aside0.mk (by rw [hg]; exact World.new_ne _ _ s0 : gr ≠ (ads.add a0.toNat).block); have N3 := Aside0.mk (by rw [hg]; exact Nat.ne_of_gt (blk_lt BK.out) : gr ≠ gb); have n0_ := Aside0.mk (below_step HB.out hb); have n1_ := Aside0.mk (blk_below BK.out hb); have GR := Aside0.mk (by rw [hg]; exact HB.out.size : w.heap.size ≤ gr); clear HB BK; have HB := n0_; have BK := n1_; clear n0_ n1_; have BR := Aside0.mk hbox; replace g1 := pw_cell_below hb g1; replace g2 := pw_cell_below hb g2; replace l0 := pw_cell_below hb l0; replace l1 := pw_cell_below hb l1; replace l6 := pw_cell_below hb l6; replace s0 := pw_cell_below hb s0; clear hg hbox hb; have c0 : w4.cell? ⟨gb, 0, none⟩ = some (.int .i64 x) := (blk_cell BK.out 0).trans rfl; have c1 : w4.cell? ⟨gb, 1, none⟩ = some (.int .i64 y) := (blk_cell BK.out 1).trans rfl; have c2 : w4.cell? ⟨gb, 2, none⟩ = some (.bool hole) := (blk_cell BK.out 2).trans rfl; have c3 : w4.cell? ⟨gb, 3, none⟩ = some (.int .i64 lo) := (blk_cell BK.out 3).trans rfl; have c4 : w4.cell? ⟨gb, 4, none⟩ = some (.int .i64 hi) := (blk_cell BK.out 4).trans rfl)
              | (go_at_call 87; (with_reducible refine (gauge_limits.calls 2 lo hi 0 _ A1.out).mono ?_); rintro e w5 ⟨rfl, hb⟩; have n0_ := Aside0.mk (below_step HB.out hb); have n1_ := Aside0.mk (blk_below BK.out hb); have n2_ := Aside0.mk (blk_below BR.out hb); clear HB BK BR; have HB := n0_; have BK := n1_; have BR := n2_; clear n0_ n1_ n2_; replace g1 := pw_cell_below hb g1; replace g2 := pw_cell_below hb g2; replace l0 := pw_cell_below hb l0; replace l1 := pw_cell_below hb l1; replace l6 := pw_cell_below hb l6; replace s0 := pw_cell_below hb s0; replace c0 := pw_cell_below hb c0; replace c1 := pw_cell_below hb c1; replace c2 := pw_cell_below hb c2; replace c3 := pw_cell_below hb c3; replace c4 := pw_cell_below hb c4; clear hb; have d0 : w5.cell? ⟨gr, 0, none⟩ = some (.int .i64 0) := (blk_cell BR.out 0).trans rfl; have d1 : w5.cell? ⟨gr, 1, none⟩ = some (.int .i64 0) := (blk_cell BR.out 1).trans rfl; have df0 := blk_frozen BR.out 0; have df1 := blk_frozen BR.out 1))
            go_quiet (fail)
            go_wp2
            refine bodyPost_ret (v := .tuple #[.agg #[.int .i64 (0), .int .i64 (0)], .int .i64 (16)]) (by simp [results, Tryd.results109, go_sem, d0, d1]) rfl ⟨rfl, by repeat (first | exact HB.out | apply below_alloc | apply pw_below_drewN | apply below_drew1 | (refine below_set ?_ GR.out))⟩
          · have hA' : (!(x == X) || (!(y == Y))) = false := by simpa using hA
            have e : x = X ∧ y = Y := by simpa using hA
            by_cases hP : (!(hole == P)) = true
            · have hne : ¬ (x = X ∧ y = Y ∧ hole = P) := by
                rintro ⟨_, _, rfl⟩; simp at hP
              rw [if_neg hne] at h
              simp at h
              obtain ⟨rfl, rfl, rfl⟩ := h
              clear hne hA e
              go_enter Tryd.func109, Tryd.ntmps109
              go_upto_region 4 with (first
                | ((with_reducible refine gate_dst (N := 5) rfl ?_); refine box_event ?hg (N := 5) ?hd (cs := #[.int .i64 x, .int .i64 y, .bool hole, .int .i64 lo, .int .i64 hi]) (t := 104) ?hr ?_; (case hd => rfl); (case hg => rfl); (case hr => first | (go_simp; done) | (go_simp; rfl)); intro gb hg w3 hbox hb; have HB := Aside0.mk hb; have BK := Aside0.mk hbox; replace g1 := pw_cell_below hb g1; replace g2 := pw_cell_below hb g2; replace l0 := pw_cell_below hb l0; replace l1 := pw_cell_below hb l1; replace l6 := pw_cell_below hb l6; replace s0 := pw_cell_below hb s0; have GE := Aside0.mk (by rw [hg]; exact Nat.le_refl _ : w.heap.size ≤ gb); clear hg hbox hb)
                | ((with_reducible refine gate_dst (N := 6) rfl ?_); refine box_event ?hg (N := 6) ?hd (cs := #[.int .i64 0, .int .i64 0]) (t := 25) ?hr ?_; (case hd => rfl); (case hg => rfl); (case hr => first | (go_simp; done) | (go_simp; rfl)); intro gr hg w4 hbox hb; have N1 := Aside0.mk (by rw [hg]; exact World.new_ne _ _ g2 : gr ≠ Adr109.gs); have N2 := Aside0.mk (by rw [hg]; exact World.new_ne _ _ s0 : gr ≠ (ads.add a0.toNat).block); have N3 := Aside0.mk (by rw [hg]; exact Nat.ne_of_gt (blk_lt BK.out) : gr ≠ gb); have n0_ := Aside0.mk (below_step HB.out hb); have n1_ := Aside0.mk (blk_below BK.out hb); have GR := Aside0.mk (by rw [hg]; exact HB.out.size : w.heap.size ≤ gr); clear HB BK; have HB := n0_; have BK := n1_; clear n0_ n1_; have BR := Aside0.mk hbox; replace g1 := pw_cell_below hb g1; replace g2 := pw_cell_below hb g2; replace l0 := pw_cell_below hb l0; replace l1 := pw_cell_below hb l1; replace l6 := pw_cell_below hb l6; replace s0 := pw_cell_below hb s0; clear hg hbox hb; have c0 : w4.cell? ⟨gb, 0, none⟩ = some (.int .i64 x) := (blk_cell BK.out 0).trans rfl; have c1 : w4.cell? ⟨gb, 1, none⟩ = some (.int .i64 y) := (blk_cell BK.out 1).trans rfl; have c2 : w4.cell? ⟨gb, 2, none⟩ = some (.bool hole) := (blk_cell BK.out 2).trans rfl; have c3 : w4.cell? ⟨gb, 3, none⟩ = some (.int .i64 lo) := (blk_cell BK.out 3).trans rfl; have c4 : w4.cell? ⟨gb, 4, none⟩ = some (.int .i64 hi) := (blk_cell BK.out 4).trans rfl)
                | (go_at_call 87; (with_reducible refine (gauge_limits.calls 2 lo hi 0 _ A1.out).mono ?_); rintro e w5 ⟨rfl, hb⟩; have n0_ := Aside0.mk (below_step HB.out hb); have n1_ := Aside0.mk (blk_below BK.out hb); have n2_ := Aside0.mk (blk_below BR.out hb); clear HB BK BR; have HB := n0_; have BK := n1_; have BR := n2_; clear n0_ n1_ n2_; replace g1 := pw_cell_below hb g1; replace g2 := pw_cell_below hb g2; replace l0 := pw_cell_below hb l0; replace l1 := pw_cell_below hb l1; replace l6 := pw_cell_below hb l6; replace s0 := pw_cell_below hb s0; replace c0 := pw_cell_below hb c0; replace c1 := pw_cell_below hb c1; replace c2 := pw_cell_below hb c2; replace c3 := pw_cell_below hb c3; replace c4 := pw_cell_below hb c4; clear hb; have d0 : w5.cell? ⟨gr, 0, none⟩ = some (.int .i64 0) := (blk_cell BR.out 0).trans rfl; have d1 : w5.cell? ⟨gr, 1, none⟩ = some (.int .i64 0) := (blk_cell BR.out 1).trans rfl; have df0 := blk_frozen BR.out 0; have df1 := blk_frozen BR.out 1))
              go_quiet (fail)
              go_wp2
              refine bodyPost_ret (v := .tuple #[.agg #[.int .i64 (0), .int .i64 (0)], .int .i64 (16)]) (by simp [results, Tryd.results109, go_sem, d0, d1]) rfl ⟨rfl, by repeat (first | exact HB.out | apply below_alloc | apply pw_below_drewN | apply below_drew1 | (refine below_set ?_ GR.out))⟩
            · obtain rfl : hole = P := by simpa using hP
              obtain ⟨rfl, rfl⟩ := e
              rw [if_pos ⟨rfl, rfl, rfl⟩] at h
              clear hA hA' hP
              cases hole with
              | true =>
                rw [if_pos rfl] at h
                simp only [Option.some.injEq, Prod.mk.injEq] at h
                obtain ⟨rfl, rfl, rfl⟩ := h
                go_enter Tryd.func109, Tryd.ntmps109
                go_upto_region 4 with (first
                  | ((with_reducible refine gate_dst (N := 5) rfl ?_); refine box_event ?hg (N := 5) ?hd (cs := #[.int .i64 x, .int .i64 y, .bool true, .int .i64 lo, .int .i64 hi]) (t := 104) ?hr ?_; (case hd => rfl); (case hg => rfl); (case hr => first | (go_simp; done) | (go_simp; rfl)); intro gb hg w3 hbox hb; have HB := Aside0.mk hb; have BK := Aside0.mk hbox; replace g1 := pw_cell_below hb g1; replace g2 := pw_cell_below hb g2; replace l0 := pw_cell_below hb l0; replace l1 := pw_cell_below hb l1; replace l6 := pw_cell_below hb l6; replace s0 := pw_cell_below hb s0; have GE := Aside0.mk (by rw [hg]; exact Nat.le_refl _ : w.heap.size ≤ gb); clear hg hbox hb)
                  | ((with_reducible refine gate_dst (N := 6) rfl ?_); refine box_event ?hg (N := 6) ?hd (cs := #[.int .i64 0, .int .i64 0]) (t := 25) ?hr ?_; (case hd => rfl); (case hg => rfl); (case hr => first | (go_simp; done) | (go_simp; rfl)); intro gr hg w4 hbox hb; have N1 := Aside0.mk (by rw [hg]; exact World.new_ne _ _ g2 : gr ≠ Adr109.gs); have N2 := Aside0.mk (by rw [hg]; exact World.new_ne _ _ s0 : gr ≠ (ads.add a0.toNat).block); have N3 := Aside0.mk (by rw [hg]; exact Nat.ne_of_gt (blk_lt BK.out) : gr ≠ gb); have n0_ := Aside0.mk (below_step HB.out hb); have n1_ := Aside0.mk (blk_below BK.out hb); have GR := Aside0.mk (by rw [hg]; exact HB.out.size : w.heap.size ≤ gr); clear HB BK; have HB := n0_; have BK := n1_; clear n0_ n1_; have BR := Aside0.mk hbox; replace g1 := pw_cell_below hb g1; replace g2 := pw_cell_below hb g2; replace l0 := pw_cell_below hb l0; replace l1 := pw_cell_below hb l1; replace l6 := pw_cell_below hb l6; replace s0 := pw_cell_below hb s0; clear hg hbox hb; have c0 : w4.cell? ⟨gb, 0, none⟩ = some (.int .i64 x) := (blk_cell BK.out 0).trans rfl; have c1 : w4.cell? ⟨gb, 1, none⟩ = some (.int .i64 y) := (blk_cell BK.out 1).trans rfl; have c2 : w4.cell? ⟨gb, 2, none⟩ = some (.bool true) := (blk_cell BK.out 2).trans rfl; have c3 : w4.cell? ⟨gb, 3, none⟩ = some (.int .i64 lo) := (blk_cell BK.out 3).trans rfl; have c4 : w4.cell? ⟨gb, 4, none⟩ = some (.int .i64 hi) := (blk_cell BK.out 4).trans rfl)
                  | (go_at_call 87; (with_reducible refine (gauge_limits.calls 2 lo hi 0 _ A1.out).mono ?_); rintro e w5 ⟨rfl, hb⟩; have n0_ := Aside0.mk (below_step HB.out hb); have n1_ := Aside0.mk (blk_below BK.out hb); have n2_ := Aside0.mk (blk_below BR.out hb); clear HB BK BR; have HB := n0_; have BK := n1_; have BR := n2_; clear n0_ n1_ n2_; replace g1 := pw_cell_below hb g1; replace g2 := pw_cell_below hb g2; replace l0 := pw_cell_below hb l0; replace l1 := pw_cell_below hb l1; replace l6 := pw_cell_below hb l6; replace s0 := pw_cell_below hb s0; replace c0 := pw_cell_below hb c0; replace c1 := pw_cell_below hb c1; replace c2 := pw_cell_below hb c2; replace c3 := pw_cell_below hb c3; replace c4 := pw_cell_below hb c4; clear hb; have d0 : w5.cell? ⟨gr, 0, none⟩ = some (.int .i64 0) := (blk_cell BR.out 0).trans rfl; have d1 : w5.cell? ⟨gr, 1, none⟩ = some (.int .i64 0) := (blk_cell BR.out 1).trans rfl; have df0 := blk_frozen BR.out 0; have df1 := blk_frozen BR.out 1))
                go_quiet (fail)
                go_wp2
                have N1 := N1.out
                have N2 := N2.out
                have N3 := N3.out
                go_region_held3 (fun w' => w'.cell? ⟨Adr109.gs, 0, none⟩ = some (.slice (some ads) ns Adr109.d) ∧ w'.cell? (ads.add a0.toNat) = some (.int .i64 z) ∧ w'.cell? ⟨gb, 3, none⟩ = some (.int .i64 lo) ∧ w'.cell? ⟨gb, 4, none⟩ = some (.int .i64 hi)) (go_keep) (fail)
                go_wp2
                refine bodyPost_ret (v := .tuple #[.agg #[.int .i64 (IntKind.i64.wrap (z - hi)), .int .i64 (IntKind.i64.wrap (z - lo))], .int .i64 (0)]) (by simp [results, Tryd.results109, go_sem, d0, d1]) rfl ⟨by simp only [i64_w], by repeat (first | exact HB.out | apply below_alloc | apply pw_below_drewN | apply below_drew1 | (refine below_set ?_ GR.out))⟩
              | false =>
                rw [if_neg Bool.false_ne_true] at h
                simp only [Option.some.injEq, Prod.mk.injEq] at h
                obtain ⟨rfl, rfl, rfl⟩ := h
                go_enter Tryd.func109, Tryd.ntmps109
                go_upto_region 4 with (first
                  | ((with_reducible refine gate_dst (N := 5) rfl ?_); refine box_event ?hg (N := 5) ?hd (cs := #[.int .i64 x, .int .i64 y, .bool false, .int .i64 lo, .int .i64 hi]) (t := 104) ?hr ?_; (case hd => rfl); (case hg => rfl); (case hr => first | (go_simp; done) | (go_simp; rfl)); intro gb hg w3 hbox hb; have HB := Aside0.mk hb; have BK := Aside0.mk hbox; replace g1 := pw_cell_below hb g1; replace g2 := pw_cell_below hb g2; replace l0 := pw_cell_below hb l0; replace l1 := pw_cell_below hb l1; replace l6 := pw_cell_below hb l6; replace s0 := pw_cell_below hb s0; have GE := Aside0.mk (by rw [hg]; exact Nat.le_refl _ : w.heap.size ≤ gb); clear hg hbox hb)
                  | ((with_reducible refine gate_dst (N := 6) rfl ?_); refine box_event ?hg (N := 6) ?hd (cs := #[.int .i64 0, .int .i64 0]) (t := 25) ?hr ?_; (case hd => rfl); (case hg => rfl); (case hr => first | (go_simp; done) | (go_simp; rfl)); intro gr hg w4 hbox hb; have N1 := Aside0.mk (by rw [hg]; exact World.new_ne _ _ g2 : gr ≠ Adr109.gs); have N2 := Aside0.mk (by rw [hg]; exact World.new_ne _ _ s0 : gr ≠ (ads.add a0.toNat).block); have N3 := Aside0.mk (by rw [hg]; exact Nat.ne_of_gt (blk_lt BK.out) : gr ≠ gb); have n0_ := Aside0.mk (below_step HB.out hb); have n1_ := Aside0.mk (blk_below BK.out hb); have GR := Aside0.mk (by rw [hg]; exact HB.out.size : w.heap.size ≤ gr); clear HB BK; have HB := n0_; have BK := n1_; clear n0_ n1_; have BR := Aside0.mk hbox; replace g1 := pw_cell_below hb g1; replace g2 := pw_cell_below hb g2; replace l0 := pw_cell_below hb l0; replace l1 := pw_cell_below hb l1; replace l6 := pw_cell_below hb l6; replace s0 := pw_cell_below hb s0; clear hg hbox hb; have c0 : w4.cell? ⟨gb, 0, none⟩ = some (.int .i64 x) := (blk_cell BK.out 0).trans rfl; have c1 : w4.cell? ⟨gb, 1, none⟩ = some (.int .i64 y) := (blk_cell BK.out 1).trans rfl; have c2 : w4.cell? ⟨gb, 2, none⟩ = some (.bool false) := (blk_cell BK.out 2).trans rfl; have c3 : w4.cell? ⟨gb, 3, none⟩ = some (.int .i64 lo) := (blk_cell BK.out 3).trans rfl; have c4 : w4.cell? ⟨gb, 4, none⟩ = some (.int .i64 hi) := (blk_cell BK.out 4).trans rfl)
                  | (go_at_call 87; (with_reducible refine (gauge_limits.calls 2 lo hi 0 _ A1.out).mono ?_); rintro e w5 ⟨rfl, hb⟩; have n0_ := Aside0.mk (below_step HB.out hb); have n1_ := Aside0.mk (blk_below BK.out hb); have n2_ := Aside0.mk (blk_below BR.out hb); clear HB BK BR; have HB := n0_; have BK := n1_; have BR := n2_; clear n0_ n1_ n2_; replace g1 := pw_cell_below hb g1; replace g2 := pw_cell_below hb g2; replace l0 := pw_cell_below hb l0; replace l1 := pw_cell_below hb l1; replace l6 := pw_cell_below hb l6; replace s0 := pw_cell_below hb s0; replace c0 := pw_cell_below hb c0; replace c1 := pw_cell_below hb c1; replace c2 := pw_cell_below hb c2; replace c3 := pw_cell_below hb c3; replace c4 := pw_cell_below hb c4; clear hb; have d0 : w5.cell? ⟨gr, 0, none⟩ = some (.int .i64 0) := (blk_cell BR.out 0).trans rfl; have d1 : w5.cell? ⟨gr, 1, none⟩ = some (.int .i64 0) := (blk_cell BR.out 1).trans rfl; have df0 := blk_frozen BR.out 0; have df1 := blk_frozen BR.out 1))
                go_quiet (fail)
                go_wp2
                have N1 := N1.out
                have N2 := N2.out
                have N3 := N3.out
                go_region_held3 (fun w' => w'.cell? ⟨Adr109.gs, 0, none⟩ = some (.slice (some ads) ns Adr109.d) ∧ w'.cell? (ads.add a0.toNat) = some (.int .i64 z) ∧ w'.cell? ⟨gb, 3, none⟩ = some (.int .i64 lo) ∧ w'.cell? ⟨gb, 4, none⟩ = some (.int .i64 hi)) (go_keep) (fail)
                go_wp2
                refine bodyPost_ret (v := .tuple #[.agg #[.int .i64 (IntKind.i64.wrap (lo - z)), .int .i64 (IntKind.i64.wrap (hi - z))], .int .i64 (0)]) (by simp [results, Tryd.results109, go_sem, d0, d1]) rfl ⟨by simp only [i64_w], by repeat (first | exact HB.out | apply below_alloc | apply pw_below_drewN | apply below_drew1 | (refine below_set ?_ GR.out))⟩
        · rw [if_neg ht] at h
          simp at h
          obtain ⟨rfl, rfl, rfl⟩ := h
          have tb : (t != 0) = true := bne_iff_ne.mpr ht
          go_enter Tryd.func109, Tryd.ntmps109
          go_upto_region 3 with (first
            | ((with_reducible refine gate_dst (N := 5) rfl ?_); refine box_event ?hg (N := 5) ?hd (cs := #[.int .i64 x, .int .i64 y, .bool hole, .int .i64 lo, .int .i64 hi]) (t := 104) ?hr ?_; (case hd => rfl); (case hg => rfl); (case hr => first | (go_simp; done) | (go_simp; rfl)); intro gb hg w3 hbox hb; have HB := Aside0.mk hb; have BK := Aside0.mk hbox; replace g1 := pw_cell_below hb g1; replace g2 := pw_cell_below hb g2; replace l0 := pw_cell_below hb l0; replace l1 := pw_cell_below hb l1; replace l6 := pw_cell_below hb l6; replace s0 := pw_cell_below hb s0; have GE := Aside0.mk (by rw [hg]; exact Nat.le_refl _ : w.heap.size ≤ gb); clear hg hbox hb)
            | ((with_reducible refine gate_dst (N := 6) rfl ?_); refine box_event ?hg (N := 6) ?hd (cs := #[.int .i64 0, .int .i64 0]) (t := 25) ?hr ?_; (case hd => rfl); (case hg => rfl); (case hr => first | (go_simp; done) | (go_simp; rfl)); intro gr hg w4 hbox hb; have N1 := Aside0.mk (by rw [hg]; exact World.new_ne _ _ g2 : gr ≠ Adr109.gs); have N2 := Aside0.mk (by rw [hg]; exact World.new_ne _ _ s0 : gr ≠ (ads.add a0.toNat).block); have N3 := Aside0.mk (by rw [hg]; exact Nat.ne_of_gt (blk_lt BK.out) : gr ≠ gb); have n0_ := Aside0.mk (below_step HB.out hb); have n1_ := Aside0.mk (blk_below BK.out hb); have GR := Aside0.mk (by rw [hg]; exact HB.out.size : w.heap.size ≤ gr); clear HB BK; have HB := n0_; have BK := n1_; clear n0_ n1_; have BR := Aside0.mk hbox; replace g1 := pw_cell_below hb g1; replace g2 := pw_cell_below hb g2; replace l0 := pw_cell_below hb l0; replace l1 := pw_cell_below hb l1; replace l6 := pw_cell_below hb l6; replace s0 := pw_cell_below hb s0; clear hg hbox hb; have c0 : w4.cell? ⟨gb, 0, none⟩ = some (.int .i64 x) := (blk_cell BK.out 0).trans rfl; have c1 : w4.cell? ⟨gb, 1, none⟩ = some (.int .i64 y) := (blk_cell BK.out 1).trans rfl; have c2 : w4.cell? ⟨gb, 2, none⟩ = some (.bool hole) := (blk_cell BK.out 2).trans rfl; have c3 : w4.cell? ⟨gb, 3, none⟩ = some (.int .i64 lo) := (blk_cell BK.out 3).trans rfl; have c4 : w4.cell? ⟨gb, 4, none⟩ = some (.int .i64 hi) := (blk_cell BK.out 4).trans rfl)
            | (go_at_call 87; (with_reducible refine (gauge_limits.calls 2 lo hi t _ A1.out).mono ?_); rintro e w5 ⟨rfl, hb⟩; have n0_ := Aside0.mk (below_step HB.out hb); have n1_ := Aside0.mk (blk_below BK.out hb); have n2_ := Aside0.mk (blk_below BR.out hb); clear HB BK BR; have HB := n0_; have BK := n1_; have BR := n2_; clear n0_ n1_ n2_; replace g1 := pw_cell_below hb g1; replace g2 := pw_cell_below hb g2; replace l0 := pw_cell_below hb l0; replace l1 := pw_cell_below hb l1; replace l6 := pw_cell_below hb l6; replace s0 := pw_cell_below hb s0; replace c0 := pw_cell_below hb c0; replace c1 := pw_cell_below hb c1; replace c2 := pw_cell_below hb c2; replace c3 := pw_cell_below hb c3; replace c4 := pw_cell_below hb c4; clear hb; have d0 : w5.cell? ⟨gr, 0, none⟩ = some (.int .i64 0) := (blk_cell BR.out 0).trans rfl; have d1 : w5.cell? ⟨gr, 1, none⟩ = some (.int .i64 0) := (blk_cell BR.out 1).trans rfl; have df0 := blk_frozen BR.out 0; have df1 := blk_frozen BR.out 1))
          go_wp2
          refine bodyPost_ret (v := .tuple #[.agg #[.int .i64 (0), .int .i64 (0)], .int .i64 (t)]) (by simp [results, Tryd.results109, go_sem, d0, d1]) rfl ⟨rfl, by repeat (first | exact HB.out | apply below_alloc | apply pw_below_drewN | apply below_drew1 | (refine below_set ?_ GR.out))⟩
      · rw [if_neg h2] at h; cases h
    · rw [if_neg h1] at h; cases h
  · rw [if_neg h0] at h; cases h
end Go.Proofs.YtjemaonejkepcaaDoor.G
namespace Go.Proofs.YtjemaonejkepcaaDoor.G
open Go.Proofs.YtjemaonejkepcaaDoor.B
open Go.RowKit Go.Proofs.YtjemaonejkepcaaDoorW.PrintWords Go.Proofs.YtjemaonejkepcaaDoorW.PrintLast Go.Proofs.YtjemaonejkepcaaDoorW.PrintMore
attribute [local go_sem] max2_int min2_int max_two min_two max_three min_three max_four min_four   -- for this text's walks alone
set_option linter.unusedVariables false
set_option linter.unusedSimpArgs false
section
variable [q109 : Dat109]
def api_Limits.l0 : Nat → List (S25) → List (S104) → Int → Int → Option ((List (S25)) × Int)
  | 0, _, _, _, _ => none
  | k + 1, x6, x11, x12, x13 => if x13 < x12 then (if 0 ≤ x13 then (if x13 < (x11.length : Int) then ((gauge_losses_1.f x13 ((rd_T104 x11 x13).f0.f0) ((rd_T104 x11 x13).f0.f1) ((rd_T104 x11 x13).f1) ((rd_T104 x11 x13).f2.f0) ((rd_T104 x11 x13).f2.f1)).bind fun bt133 => (if bt133.2.2 = 0 then (if x6.length < 8796093022208 then (api_Limits.l0 k (x6 ++ [(⟨bt133.1, bt133.2.1⟩ : S25)]) x11 x12 (wrap64 (x13 + 1))) else (none)) else (some (([] : List (S25)), bt133.2.2)))) else (none)) else (none)) else (some (x6, 0))
def api_Limits.f (k : Nat) (l0 : List (S104)) : Option ((List (S25)) × Int) := api_Limits.l0 k ([] : List (S25)) l0 (l0.length : Int) 0
theorem api_Limits.mono_l : ∀ k, (∀ y0 y1 y2 y3, LeO (api_Limits.l0 k y0 y1 y2 y3) (api_Limits.l0 (k + 1) y0 y1 y2 y3))
  | 0 => fun _ _ _ _ r h => by simp [api_Limits.l0] at h
  | k + 1 => by
    have ih0 := api_Limits.mono_l k
    · intro y0 y1 y2 y3
      unfold api_Limits.l0
      repeat' first
      | (with_reducible exact ih0 _ _ _ _)
      | (with_reducible exact LeO.refl _)
      | (with_reducible exact LeO.none _)
      | (with_reducible refine LeO.ite ?_ ?_)
      | (with_reducible refine LeO.bind ?_ (fun _ => ?_))
      | exact ih0 _ _ _ _
      | exact LeO.none _
      | refine LeO.ite ?_ ?_
      | refine LeO.bind ?_ (fun _ => ?_)
theorem api_Limits.mono : ∀ a0 k, LeO (api_Limits.f k a0) (api_Limits.f (k + 1) a0) := by
  intro a0 k
  have ih0 := api_Limits.mono_l k
  unfold api_Limits.f
  repeat' first
      | (with_reducible exact ih0 _ _ _ _)
      | (with_reducible exact LeO.refl _)
      | (with_reducible exact LeO.none _)
      | (with_reducible refine LeO.ite ?_ ?_)
      | (with_reducible refine LeO.bind ?_ (fun _ => ?_))
      | exact ih0 _ _ _ _
      | exact LeO.none _
      | refine LeO.ite ?_ ?_
      | refine LeO.bind ?_ (fun _ => ?_)
set_option maxHeartbeats 8000000 in
set_option maxRecDepth 100000 in
theorem api_Limits.calls [Adr109] (k : Nat) (A0 : Option Addr) (c0 : Nat) (l0 : List (S104)) (r1 : List (S25)) (r2 : Int) (w : World) (hr0 : Kd.C k104 w A0 l0.length l0) (hc0 : l0.length ≤ c0) (h : api_Limits.f k l0 = some (r1, r2)) (hS : CapAt109 w) :
    Calls Tryd.prog 108 #[.slice A0 l0.length c0, .func (.func 109) #[] #[.pointer (some ⟨Adr109.gl, 0, none⟩), .pointer (some ⟨Adr109.gs, 0, none⟩)]] w fun e w' => ∃ v0_ : Value, e = .returned (.tuple #[v0_, .int .i64 r2]) ∧ Kd.R k25 25 w' w.heap.size (fun _ => True) v0_ r1 ∧ Below w.heap.size w w' := by
  have HS := Aside0.mk hS
  clear hS
  have hu104 := Tryd.underlying104
  have hu25 := Tryd.underlying25
  have HR0 := Aside0.mk hr0
  have HC0 := Aside0.mk hc0
  clear hr0 hc0
  have HB := Aside0.mk (Below.refl w.heap.size w)
  have H : (api_Limits.l0 k ([] : List (S25)) l0 (l0.length : Int) 0) = some (r1, r2) := h
  clear h
  have H' := Aside0.mk H
  clear H
  go_enter Tryd.func108, Tryd.ntmps108
  go_wp2
  go_loopg [6, 13] k (fun kq v6 v13 w' => ∃ (x6_1 : List (S25)) (x13_1 : Int), v13 = .int .i64 x13_1 ∧ Aside0 (api_Limits.l0 kq x6_1 l0 (l0.length : Int) x13_1 = some (r1, r2)) ∧ Aside0 (kq ≤ k) ∧ Aside0 (Kd.R k25 25 w' w.heap.size (fun _ => True) v6 x6_1) ∧ Aside0 (Below w.heap.size w w'))
  case atStart => exact ⟨(([] : List (S25))), (0), (by first | rfl | (simp; done) | (simp [*]; done)), H', ⟨Nat.le_refl _⟩, ⟨by first | exact Kd.R_nil _ _ _ _ _ | exact Kd.N_nil _ _ _ _ _ | exact Kd.V_nil _ _ _ _ _ | exact Kd.Q_nil _ _ _ _ _ | exact Kd.S_nil _ _ _ _ _⟩, ⟨by repeat (first | (with_reducible first | exact HB.out | apply below_alloc | apply pw_below_drewN | apply below_drew1) | exact HB.out)⟩⟩
  case round =>
    clear H'
    try clear c1
    obtain ⟨x6_1, x13_1, rfl, HA, HK1, HO_6, HB⟩ := hrel
    cases gk with
    | zero => exact absurd HA.out (by simp [api_Limits.l0])
    | succ k1 =>
      have H := HA.out
      clear HA
      simp only [api_Limits.l0] at H
      by_cases c2 : x13_1 < (l0.length : Int)
      · rw [if_pos c2] at H
        have c2b0 : decide (x13_1 < (l0.length : Int)) = true := decide_eq_true c2
        clear c2
        by_cases c3 : 0 ≤ x13_1
        · rw [if_pos c3] at H
          have c3b0 : decide (0 ≤ x13_1) = true := decide_eq_true c3
          clear c3
          by_cases c4 : x13_1 < (l0.length : Int)
          · rw [if_pos c4] at H
            have c4b0 : decide (x13_1 < (l0.length : Int)) = true := decide_eq_true c4
            clear c4
            replace H := Option.bind_eq_some_iff.mp H
            obtain ⟨⟨t133, t134, t135⟩, A50, H⟩ := H
            replace H : (if t135 = 0 then (if x6_1.length < 8796093022208 then (api_Limits.l0 k1 (x6_1 ++ [(⟨t133, t134⟩ : S25)]) l0 (l0.length : Int) (wrap64 (x13_1 + 1))) else (none)) else (some (([] : List (S25)), t135))) = some (r1, r2) := H
            have A5 := Aside0.mk A50
            clear A50
            by_cases c6 : t135 = 0
            · rw [if_pos c6] at H
              have c6b0 : (t135 == 0) = true := beq_iff_eq.mpr c6
              have c6b1 : (t135 != 0) = false := bne_eq_false_iff_eq.mpr c6
              clear c6
              by_cases c7 : x6_1.length < 8796093022208
              · rw [if_pos c7] at H
                have LMc7 := Aside0.mk c7
                clear c7
                obtain ⟨y137, hy137⟩ : ∃ y_ : List (S25), y_ = (x6_1 ++ [(⟨t133, t134⟩ : S25)]) := ⟨_, rfl⟩
                replace H : (api_Limits.l0 k1 y137 l0 (l0.length : Int) (wrap64 (x13_1 + 1))) = some (r1, r2) := by first | (rw [hy137]; with_reducible exact H) | (have H2_ := (Option.bind_some _ _).symm.trans H; rw [hy137]; with_reducible exact H2_) | (have H2_ := (Option.bind_some _ _).symm.trans H; with_reducible exact H2_) | with_reducible exact H | (rw [hy137]; exact H) | exact H
                have Ny137 := Aside0.mk hy137
                clear hy137
                have H' := Aside0.mk H
                clear H
                have p131 : 0 ≤ (x13_1 : Int) := of_decide_eq_true (by first | (with_reducible assumption) | assumption)
                have q131 : x13_1 < (l0.length : Int) := of_decide_eq_true (by first | (with_reducible assumption) | assumption)
                obtain ⟨ad131, e131, hx131_0, hx131_1, hx131_2, hx131_3, hx131_4⟩ := at_T104 HR0.out x13_1 p131 q131
                cases e131
                replace hx131_0 := (HB.out.cell (World.block_lt_of_cell? w _ hx131_0)).trans hx131_0
                replace hx131_1 := (HB.out.cell (World.block_lt_of_cell? w _ hx131_1)).trans hx131_1
                replace hx131_2 := (HB.out.cell (World.block_lt_of_cell? w _ hx131_2)).trans hx131_2
                replace hx131_3 := (HB.out.cell (World.block_lt_of_cell? w _ hx131_3)).trans hx131_3
                replace hx131_4 := (HB.out.cell (World.block_lt_of_cell? w _ hx131_4)).trans hx131_4
                replace p131 := eq_true p131
                replace q131 := eq_true q131
                go_wp2_with (first | ((with_reducible refine gate_dst (N := 8) rfl ?_); refine box_event ?hg (N := 8) ?hd (cs := #[.int .i64 0, .int .i64 0, .bool false, .int .i64 0, .int .i64 0]) (t := 104) ?hr ?_; (case hd => rfl); (case hg => rfl); (case hr => first | (go_simp; done) | (go_simp; rfl)); intro gb132 hg w8 hbox hb; have n0_ := Aside0.mk (Kd.R_below (by (with_reducible repeat (first | apply Kd.R_alloc | apply Kd.R_drewN | apply Kd.R_drew)); exact HO_6.out) hb); have n1_ := Aside0.mk (below_step (by repeat (first | (with_reducible first | exact HB.out | apply below_alloc | apply pw_below_drewN | apply below_drew1) | exact HB.out)) hb); have n2_ := Aside0.mk (hbox); have n3_ := Aside0.mk ((by rw [hg]; exact (below_size (by repeat (first | (with_reducible first | exact HB.out | apply below_alloc | apply pw_below_drewN | apply below_drew1) | exact HB.out))) : w.heap.size ≤ gb132)); have n4_ := Aside0.mk ((by rw [hg]; exact (below_size (by repeat (first | (with_reducible first | exact HB.out | apply below_alloc | apply pw_below_drewN | apply below_drew1) | exact HB.out))) : w.heap.size ≤ gb132)); clear HO_6; clear HB; have HO_6 := n0_; have HB := n1_; have BK132 := n2_; have GW132 := n3_; have GE132 := n4_; clear n0_ n1_ n2_ n3_ n4_; clear hb hbox hg; have hcz9_0 : w8.cell? ⟨gb132, 0, none⟩ = some (.int .i64 0) := (blk_cell BK132.out 0).trans rfl; have hcz9_1 : w8.cell? ⟨gb132, 1, none⟩ = some (.int .i64 0) := (blk_cell BK132.out 1).trans rfl; have hcz9_2 : w8.cell? ⟨gb132, 2, none⟩ = some (.bool false) := (blk_cell BK132.out 2).trans rfl; have hcz9_3 : w8.cell? ⟨gb132, 3, none⟩ = some (.int .i64 0) := (blk_cell BK132.out 3).trans rfl; have hcz9_4 : w8.cell? ⟨gb132, 4, none⟩ = some (.int .i64 0) := (blk_cell BK132.out 4).trans rfl; have hfz9_0 := blk_frozen BK132.out 0; have hfz9_1 := blk_frozen BK132.out 1; have hfz9_2 := blk_frozen BK132.out 2; have hfz9_3 := blk_frozen BK132.out 3; have hfz9_4 := blk_frozen BK132.out 4) | (go_at_call 109; (with_reducible refine (gauge_losses_1.calls x13_1 ((rd_T104 l0 x13_1).f0.f0) ((rd_T104 l0 x13_1).f0.f1) ((rd_T104 l0 x13_1).f1) ((rd_T104 l0 x13_1).f2.f0) ((rd_T104 l0 x13_1).f2.f1) t133 t134 t135 _ A5.out (by exact cap109_below HS.out (by repeat (first | (with_reducible first | exact HB.out | apply below_alloc | apply pw_below_drewN | apply below_drew1 | refine below_set ?_ GE132.out | refine below_set ?_ GE136.out) | exact HB.out)))).mono ?_); rintro e w10 ⟨rfl, hb⟩; skip; have n0_ := Aside0.mk (Kd.R_below (by (with_reducible repeat (first | apply Kd.R_alloc | apply Kd.R_drewN | apply Kd.R_drew)); exact (Kd.R_mono (Kd.R_far (p := ⟨gb132, 4, none⟩) (Kd.R_far (p := ⟨gb132, 3, none⟩) (Kd.R_far (p := ⟨gb132, 2, none⟩) (Kd.R_far (p := ⟨gb132, 1, none⟩) (Kd.R_far (p := ⟨gb132, 0, none⟩) (Kd.R_types HO_6.out BK132.out (by decide)) (fun _ hk => hk.2) (.int .i64 ((rd_T104 l0 x13_1).f0.f0))) (fun _ hk => hk.2) (.int .i64 ((rd_T104 l0 x13_1).f0.f1))) (fun _ hk => hk.2) (.bool ((rd_T104 l0 x13_1).f1))) (fun _ hk => hk.2) (.int .i64 ((rd_T104 l0 x13_1).f2.f0))) (fun _ hk => hk.2) (.int .i64 ((rd_T104 l0 x13_1).f2.f1))) (fun _ h_ => h_.1))) hb); have n1_ := Aside0.mk (blk_below (g := gb132) (o := .cells #[.int .i64 ((rd_T104 l0 x13_1).f0.f0), .int .i64 ((rd_T104 l0 x13_1).f0.f1), .bool ((rd_T104 l0 x13_1).f1), .int .i64 ((rd_T104 l0 x13_1).f2.f0), .int .i64 ((rd_T104 l0 x13_1).f2.f1)] 104 (0, 0)) (by (with_reducible repeat (first | refine blk_drewN ?_ _ | refine blk_drew ?_ | refine blk_alloc ?_ _)); refine blk_put (cs := #[.int .i64 ((rd_T104 l0 x13_1).f0.f0), .int .i64 ((rd_T104 l0 x13_1).f0.f1), .bool ((rd_T104 l0 x13_1).f1), .int .i64 ((rd_T104 l0 x13_1).f2.f0), .int .i64 0]) ?_ 4 _ rfl; (with_reducible repeat (first | refine blk_drewN ?_ _ | refine blk_drew ?_ | refine blk_alloc ?_ _)); refine blk_put (cs := #[.int .i64 ((rd_T104 l0 x13_1).f0.f0), .int .i64 ((rd_T104 l0 x13_1).f0.f1), .bool ((rd_T104 l0 x13_1).f1), .int .i64 0, .int .i64 0]) ?_ 3 _ rfl; (with_reducible repeat (first | refine blk_drewN ?_ _ | refine blk_drew ?_ | refine blk_alloc ?_ _)); refine blk_put (cs := #[.int .i64 ((rd_T104 l0 x13_1).f0.f0), .int .i64 ((rd_T104 l0 x13_1).f0.f1), .bool false, .int .i64 0, .int .i64 0]) ?_ 2 _ rfl; (with_reducible repeat (first | refine blk_drewN ?_ _ | refine blk_drew ?_ | refine blk_alloc ?_ _)); refine blk_put (cs := #[.int .i64 ((rd_T104 l0 x13_1).f0.f0), .int .i64 0, .bool false, .int .i64 0, .int .i64 0]) ?_ 1 _ rfl; (with_reducible repeat (first | refine blk_drewN ?_ _ | refine blk_drew ?_ | refine blk_alloc ?_ _)); refine blk_put (cs := #[.int .i64 0, .int .i64 0, .bool false, .int .i64 0, .int .i64 0]) ?_ 0 _ rfl; (with_reducible repeat (first | refine blk_drewN ?_ _ | refine blk_drew ?_ | refine blk_alloc ?_ _)); exact BK132.out) hb); have n2_ := Aside0.mk (below_step (by repeat (first | (with_reducible first | exact HB.out | apply below_alloc | apply pw_below_drewN | apply below_drew1 | refine below_set ?_ GE132.out) | exact HB.out)) hb); clear HO_6; clear BK132; clear HB; have HO_6 := n0_; have BK132 := n1_; have HB := n2_; clear n0_ n1_ n2_; (try clear hb); (try clear hb2); (try clear hk); (try clear hi)) | ((with_reducible refine gate_dst (N := 9) rfl ?_); refine box_event ?hg (N := 9) ?hd (cs := #[.int .i64 0, .int .i64 0]) (t := 25) ?hr ?_; (case hd => rfl); (case hg => rfl); (case hr => first | (go_simp; done) | (go_simp; rfl)); intro gb136 hg w11 hbox hb; have n0_ := Aside0.mk (Kd.R_below (Kd.R_elderB (by (with_reducible repeat (first | apply Kd.R_alloc | apply Kd.R_drewN | apply Kd.R_drew)); exact HO_6.out) gb136 (Nat.le_of_eq hg.symm)) hb); have n1_ := Aside0.mk (blk_below (g := gb132) (o := .cells #[.int .i64 ((rd_T104 l0 x13_1).f0.f0), .int .i64 ((rd_T104 l0 x13_1).f0.f1), .bool ((rd_T104 l0 x13_1).f1), .int .i64 ((rd_T104 l0 x13_1).f2.f0), .int .i64 ((rd_T104 l0 x13_1).f2.f1)] 104 (0, 0)) (by (with_reducible repeat (first | refine blk_drewN ?_ _ | refine blk_drew ?_ | refine blk_alloc ?_ _)); exact BK132.out) hb); have n2_ := Aside0.mk (below_step (by repeat (first | (with_reducible first | exact HB.out | apply below_alloc | apply pw_below_drewN | apply below_drew1 | refine below_set ?_ GE132.out) | exact HB.out)) hb); have n3_ := Aside0.mk (hbox); have n4_ := Aside0.mk ((by rw [hg]; exact (below_size (by repeat (first | (with_reducible first | exact HB.out | apply below_alloc | apply pw_below_drewN | apply below_drew1 | refine below_set ?_ GE132.out) | exact HB.out))) : w.heap.size ≤ gb136)); have n5_ := Aside0.mk ((by rw [hg]; exact (below_size (by repeat (first | (with_reducible first | exact HB.out | apply below_alloc | apply pw_below_drewN | apply below_drew1 | refine below_set ?_ GE132.out) | exact HB.out))) : w.heap.size ≤ gb136)); have n6_ := Aside0.mk ((by rw [hg]; exact Nat.ne_of_lt (blk_lt (g := gb132) (o := .cells #[.int .i64 ((rd_T104 l0 x13_1).f0.f0), .int .i64 ((rd_T104 l0 x13_1).f0.f1), .bool ((rd_T104 l0 x13_1).f1), .int .i64 ((rd_T104 l0 x13_1).f2.f0), .int .i64 ((rd_T104 l0 x13_1).f2.f1)] 104 (0, 0)) (by (with_reducible repeat (first | refine blk_drewN ?_ _ | refine blk_drew ?_ | refine blk_alloc ?_ _)); exact BK132.out)) : gb132 ≠ gb136)); have n7_ := Aside0.mk ((by rw [hg]; exact Nat.ne_of_gt (blk_lt (g := gb132) (o := .cells #[.int .i64 ((rd_T104 l0 x13_1).f0.f0), .int .i64 ((rd_T104 l0 x13_1).f0.f1), .bool ((rd_T104 l0 x13_1).f1), .int .i64 ((rd_T104 l0 x13_1).f2.f0), .int .i64 ((rd_T104 l0 x13_1).f2.f1)] 104 (0, 0)) (by (with_reducible repeat (first | refine blk_drewN ?_ _ | refine blk_drew ?_ | refine blk_alloc ?_ _)); exact BK132.out)) : gb136 ≠ gb132)); clear HO_6; clear BK132; clear HB; have HO_6 := n0_; have BK132 := n1_; have HB := n2_; have BK136 := n3_; have GW136 := n4_; have GE136 := n5_; have NB132_136 := n6_; have NB136_132 := n7_; clear n0_ n1_ n2_ n3_ n4_ n5_ n6_ n7_; clear hb hbox hg; have hnb12 := NB136_132.out; have hnc12 := NB132_136.out; have hcz13_0 : w11.cell? ⟨gb136, 0, none⟩ = some (.int .i64 0) := (blk_cell BK136.out 0).trans rfl; have hcz13_1 : w11.cell? ⟨gb136, 1, none⟩ = some (.int .i64 0) := (blk_cell BK136.out 1).trans rfl; have hfz13_0 := blk_frozen BK136.out 0; have hfz13_1 := blk_frozen BK136.out 1) | ((with_reducible refine gate_builtin (b := .append) (xs := #[.tmp 28, .tmp 30]) rfl ?_); at_builtin; refine Kd.R_append k25 (w0 := w) w.heap.size rfl (.tmp 28) (.tmp 30) 124 25 (.agg #[(.int .i64 0), (.int .i64 0)]) 16 rfl Tryd.underlying124 info25 rfl (by decide) (by omega) u6 x6_1 (⟨t133, t134⟩ : S25) [.int .i64 t133, .int .i64 t134] (fun k_ => k_ ≠ gb136) (fun _ => False) rfl (by first | (go_simp; done) | (go_simp; rfl)) ?aP (fun _ hk => hk.elim) ?aF ?aO ?aB ?aS ?aL ?_; (case aP => exact k25_mkM _ _ _ (⟨t133, t134⟩ : S25)); (case aB => exact (by repeat (first | (with_reducible first | exact HB.out | apply below_alloc | apply pw_below_drewN | apply below_drew1 | refine below_set ?_ GE132.out | refine below_set ?_ GE136.out) | exact HB.out))); (case aF => exact (fun k_ hk => Kd.freshB (g := gb136) (o := .cells #[.int .i64 t133, .int .i64 t134] 25 (0, 0)) (by (with_reducible repeat (first | refine blk_drewN ?_ _ | refine blk_drew ?_ | refine blk_alloc ?_ _)); refine blk_put (cs := #[.int .i64 t133, .int .i64 0]) ?_ 1 _ rfl; (with_reducible repeat (first | refine blk_drewN ?_ _ | refine blk_drew ?_ | refine blk_alloc ?_ _)); refine blk_put (cs := #[.int .i64 0, .int .i64 0]) ?_ 0 _ rfl; (with_reducible repeat (first | refine blk_drewN ?_ _ | refine blk_drew ?_ | refine blk_alloc ?_ _)); exact BK136.out) k_ hk)); (case aO => exact (by (with_reducible repeat (first | apply Kd.R_alloc | apply Kd.R_drewN | apply Kd.R_drew)); exact Kd.R_mono (Kd.R_far (p := ⟨gb136, 1, none⟩) (Kd.R_far (p := ⟨gb136, 0, none⟩) (Kd.R_mono HO_6.out (fun k_ hk => (⟨hk, hk.2⟩ : _ ∧ k_ ≠ gb136))) (fun _ hk => hk.2) (.int .i64 t133)) (fun _ hk => hk.2) (.int .i64 t134)) (fun _ hk => hk.1.2))); (case aS => exact (below_size (by repeat (first | (with_reducible first | exact HB.out | apply below_alloc | apply pw_below_drewN | apply below_drew1 | refine below_set ?_ GE132.out | refine below_set ?_ GE136.out) | exact HB.out)))); (case aL => have := LMc7.out; omega); intro v138 w14 ho hb hg hat; rw [← Ny137.out] at ho; have n0_ := Aside0.mk (blk_grown (g := gb132) (o := .cells #[.int .i64 ((rd_T104 l0 x13_1).f0.f0), .int .i64 ((rd_T104 l0 x13_1).f0.f1), .bool ((rd_T104 l0 x13_1).f1), .int .i64 ((rd_T104 l0 x13_1).f2.f0), .int .i64 ((rd_T104 l0 x13_1).f2.f1)] 104 (0, 0)) (by (with_reducible repeat (first | refine blk_drewN ?_ _ | refine blk_drew ?_ | refine blk_alloc ?_ _)); refine blk_far ?_ NB132_136.out _; (with_reducible repeat (first | refine blk_drewN ?_ _ | refine blk_drew ?_ | refine blk_alloc ?_ _)); refine blk_far ?_ NB132_136.out _; (with_reducible repeat (first | refine blk_drewN ?_ _ | refine blk_drew ?_ | refine blk_alloc ?_ _)); exact BK132.out) hg (Kd.R_ne HO_6.out BK132.out (by decide))); have n1_ := Aside0.mk (blk_grown (g := gb136) (o := .cells #[.int .i64 t133, .int .i64 t134] 25 (0, 0)) (by (with_reducible repeat (first | refine blk_drewN ?_ _ | refine blk_drew ?_ | refine blk_alloc ?_ _)); refine blk_put (cs := #[.int .i64 t133, .int .i64 0]) ?_ 1 _ rfl; (with_reducible repeat (first | refine blk_drewN ?_ _ | refine blk_drew ?_ | refine blk_alloc ?_ _)); refine blk_put (cs := #[.int .i64 0, .int .i64 0]) ?_ 0 _ rfl; (with_reducible repeat (first | refine blk_drewN ?_ _ | refine blk_drew ?_ | refine blk_alloc ?_ _)); exact BK136.out) hg (Kd.R_away HO_6.out (fun _ hk => hk.2))); have n2_ := Aside0.mk (hb); have n3_ := Aside0.mk (ho); clear BK132; clear BK136; clear HB; clear HO_6; have BK132 := n0_; have BK136 := n1_; have HB := n2_; have HO139 := n3_; clear n0_ n1_ n2_ n3_; clear ho hb hg hat))
                go_roundg k1
                case measure => have := HK1.out; omega
                case rel => exact ⟨(y137), (wrap64 (x13_1 + 1)), (by first | rfl | (simp; done) | (simp [*]; done)), H', ⟨by have := HK1.out; omega⟩, ⟨by (with_reducible repeat (first | apply Kd.R_alloc | apply Kd.R_drewN | apply Kd.R_drew)); exact Kd.R_mono HO139.out (fun _ hk => trivial)⟩, ⟨by repeat (first | (with_reducible first | exact HB.out | apply below_alloc | apply pw_below_drewN | apply below_drew1 | refine below_set ?_ GE132.out | refine below_set ?_ GE136.out) | exact HB.out)⟩⟩
              · rw [if_neg c7] at H
                exact absurd H (by simp)
            · rw [if_neg c6] at H
              have c6b0 : (t135 == 0) = false := beq_eq_false_iff_ne.mpr c6
              have c6b1 : (t135 != 0) = true := bne_iff_ne.mpr c6
              simp only [Option.some.injEq, Prod.mk.injEq] at H
              obtain ⟨rfl, rfl⟩ := H
              have p131 : 0 ≤ (x13_1 : Int) := of_decide_eq_true (by first | (with_reducible assumption) | assumption)
              have q131 : x13_1 < (l0.length : Int) := of_decide_eq_true (by first | (with_reducible assumption) | assumption)
              obtain ⟨ad131, e131, hx131_0, hx131_1, hx131_2, hx131_3, hx131_4⟩ := at_T104 HR0.out x13_1 p131 q131
              cases e131
              replace hx131_0 := (HB.out.cell (World.block_lt_of_cell? w _ hx131_0)).trans hx131_0
              replace hx131_1 := (HB.out.cell (World.block_lt_of_cell? w _ hx131_1)).trans hx131_1
              replace hx131_2 := (HB.out.cell (World.block_lt_of_cell? w _ hx131_2)).trans hx131_2
              replace hx131_3 := (HB.out.cell (World.block_lt_of_cell? w _ hx131_3)).trans hx131_3
              replace hx131_4 := (HB.out.cell (World.block_lt_of_cell? w _ hx131_4)).trans hx131_4
              replace p131 := eq_true p131
              replace q131 := eq_true q131
              go_wp2_with (first | ((with_reducible refine gate_dst (N := 8) rfl ?_); refine box_event ?hg (N := 8) ?hd (cs := #[.int .i64 0, .int .i64 0, .bool false, .int .i64 0, .int .i64 0]) (t := 104) ?hr ?_; (case hd => rfl); (case hg => rfl); (case hr => first | (go_simp; done) | (go_simp; rfl)); intro gb132 hg w15 hbox hb; have n0_ := Aside0.mk (Kd.R_below (by (with_reducible repeat (first | apply Kd.R_alloc | apply Kd.R_drewN | apply Kd.R_drew)); exact HO_6.out) hb); have n1_ := Aside0.mk (below_step (by repeat (first | (with_reducible first | exact HB.out | apply below_alloc | apply pw_below_drewN | apply below_drew1) | exact HB.out)) hb); have n2_ := Aside0.mk (hbox); have n3_ := Aside0.mk ((by rw [hg]; exact (below_size (by repeat (first | (with_reducible first | exact HB.out | apply below_alloc | apply pw_below_drewN | apply below_drew1) | exact HB.out))) : w.heap.size ≤ gb132)); have n4_ := Aside0.mk ((by rw [hg]; exact (below_size (by repeat (first | (with_reducible first | exact HB.out | apply below_alloc | apply pw_below_drewN | apply below_drew1) | exact HB.out))) : w.heap.size ≤ gb132)); clear HO_6; clear HB; have HO_6 := n0_; have HB := n1_; have BK132 := n2_; have GW132 := n3_; have GE132 := n4_; clear n0_ n1_ n2_ n3_ n4_; clear hb hbox hg; have hcz16_0 : w15.cell? ⟨gb132, 0, none⟩ = some (.int .i64 0) := (blk_cell BK132.out 0).trans rfl; have hcz16_1 : w15.cell? ⟨gb132, 1, none⟩ = some (.int .i64 0) := (blk_cell BK132.out 1).trans rfl; have hcz16_2 : w15.cell? ⟨gb132, 2, none⟩ = some (.bool false) := (blk_cell BK132.out 2).trans rfl; have hcz16_3 : w15.cell? ⟨gb132, 3, none⟩ = some (.int .i64 0) := (blk_cell BK132.out 3).trans rfl; have hcz16_4 : w15.cell? ⟨gb132, 4, none⟩ = some (.int .i64 0) := (blk_cell BK132.out 4).trans rfl; have hfz16_0 := blk_frozen BK132.out 0; have hfz16_1 := blk_frozen BK132.out 1; have hfz16_2 := blk_frozen BK132.out 2; have hfz16_3 := blk_frozen BK132.out 3; have hfz16_4 := blk_frozen BK132.out 4) | (go_at_call 109; (with_reducible refine (gauge_losses_1.calls x13_1 ((rd_T104 l0 x13_1).f0.f0) ((rd_T104 l0 x13_1).f0.f1) ((rd_T104 l0 x13_1).f1) ((rd_T104 l0 x13_1).f2.f0) ((rd_T104 l0 x13_1).f2.f1) t133 t134 t135 _ A5.out (by exact cap109_below HS.out (by repeat (first | (with_reducible first | exact HB.out | apply below_alloc | apply pw_below_drewN | apply below_drew1 | refine below_set ?_ GE132.out | refine below_set ?_ GE136.out) | exact HB.out)))).mono ?_); rintro e w17 ⟨rfl, hb⟩; skip; have n0_ := Aside0.mk (Kd.R_below (by (with_reducible repeat (first | apply Kd.R_alloc | apply Kd.R_drewN | apply Kd.R_drew)); exact (Kd.R_mono (Kd.R_far (p := ⟨gb132, 4, none⟩) (Kd.R_far (p := ⟨gb132, 3, none⟩) (Kd.R_far (p := ⟨gb132, 2, none⟩) (Kd.R_far (p := ⟨gb132, 1, none⟩) (Kd.R_far (p := ⟨gb132, 0, none⟩) (Kd.R_types HO_6.out BK132.out (by decide)) (fun _ hk => hk.2) (.int .i64 ((rd_T104 l0 x13_1).f0.f0))) (fun _ hk => hk.2) (.int .i64 ((rd_T104 l0 x13_1).f0.f1))) (fun _ hk => hk.2) (.bool ((rd_T104 l0 x13_1).f1))) (fun _ hk => hk.2) (.int .i64 ((rd_T104 l0 x13_1).f2.f0))) (fun _ hk => hk.2) (.int .i64 ((rd_T104 l0 x13_1).f2.f1))) (fun _ h_ => h_.1))) hb); have n1_ := Aside0.mk (blk_below (g := gb132) (o := .cells #[.int .i64 ((rd_T104 l0 x13_1).f0.f0), .int .i64 ((rd_T104 l0 x13_1).f0.f1), .bool ((rd_T104 l0 x13_1).f1), .int .i64 ((rd_T104 l0 x13_1).f2.f0), .int .i64 ((rd_T104 l0 x13_1).f2.f1)] 104 (0, 0)) (by (with_reducible repeat (first | refine blk_drewN ?_ _ | refine blk_drew ?_ | refine blk_alloc ?_ _)); refine blk_put (cs := #[.int .i64 ((rd_T104 l0 x13_1).f0.f0), .int .i64 ((rd_T104 l0 x13_1).f0.f1), .bool ((rd_T104 l0 x13_1).f1), .int .i64 ((rd_T104 l0 x13_1).f2.f0), .int .i64 0]) ?_ 4 _ rfl; (with_reducible repeat (first | refine blk_drewN ?_ _ | refine blk_drew ?_ | refine blk_alloc ?_ _)); refine blk_put (cs := #[.int .i64 ((rd_T104 l0 x13_1).f0.f0), .int .i64 ((rd_T104 l0 x13_1).f0.f1), .bool ((rd_T104 l0 x13_1).f1), .int .i64 0, .int .i64 0]) ?_ 3 _ rfl; (with_reducible repeat (first | refine blk_drewN ?_ _ | refine blk_drew ?_ | refine blk_alloc ?_ _)); refine blk_put (cs := #[.int .i64 ((rd_T104 l0 x13_1).f0.f0), .int .i64 ((rd_T104 l0 x13_1).f0.f1), .bool false, .int .i64 0, .int .i64 0]) ?_ 2 _ rfl; (with_reducible repeat (first | refine blk_drewN ?_ _ | refine blk_drew ?_ | refine blk_alloc ?_ _)); refine blk_put (cs := #[.int .i64 ((rd_T104 l0 x13_1).f0.f0), .int .i64 0, .bool false, .int .i64 0, .int .i64 0]) ?_ 1 _ rfl; (with_reducible repeat (first | refine blk_drewN ?_ _ | refine blk_drew ?_ | refine blk_alloc ?_ _)); refine blk_put (cs := #[.int .i64 0, .int .i64 0, .bool false, .int .i64 0, .int .i64 0]) ?_ 0 _ rfl; (with_reducible repeat (first | refine blk_drewN ?_ _ | refine blk_drew ?_ | refine blk_alloc ?_ _)); exact BK132.out) hb); have n2_ := Aside0.mk (below_step (by repeat (first | (with_reducible first | exact HB.out | apply below_alloc | apply pw_below_drewN | apply below_drew1 | refine below_set ?_ GE132.out) | exact HB.out)) hb); clear HO_6; clear BK132; clear HB; have HO_6 := n0_; have BK132 := n1_; have HB := n2_; clear n0_ n1_ n2_; (try clear hb); (try clear hb2); (try clear hk); (try clear hi)) | ((with_reducible refine gate_dst (N := 9) rfl ?_); refine box_event ?hg (N := 9) ?hd (cs := #[.int .i64 0, .int .i64 0]) (t := 25) ?hr ?_; (case hd => rfl); (case hg => rfl); (case hr => first | (go_simp; done) | (go_simp; rfl)); intro gb136 hg w18 hbox hb; have n0_ := Aside0.mk (Kd.R_below (Kd.R_elderB (by (with_reducible repeat (first | apply Kd.R_alloc | apply Kd.R_drewN | apply Kd.R_drew)); exact HO_6.out) gb136 (Nat.le_of_eq hg.symm)) hb); have n1_ := Aside0.mk (blk_below (g := gb132) (o := .cells #[.int .i64 ((rd_T104 l0 x13_1).f0.f0), .int .i64 ((rd_T104 l0 x13_1).f0.f1), .bool ((rd_T104 l0 x13_1).f1), .int .i64 ((rd_T104 l0 x13_1).f2.f0), .int .i64 ((rd_T104 l0 x13_1).f2.f1)] 104 (0, 0)) (by (with_reducible repeat (first | refine blk_drewN ?_ _ | refine blk_drew ?_ | refine blk_alloc ?_ _)); exact BK132.out) hb); have n2_ := Aside0.mk (below_step (by repeat (first | (with_reducible first | exact HB.out | apply below_alloc | apply pw_below_drewN | apply below_drew1 | refine below_set ?_ GE132.out) | exact HB.out)) hb); have n3_ := Aside0.mk (hbox); have n4_ := Aside0.mk ((by rw [hg]; exact (below_size (by repeat (first | (with_reducible first | exact HB.out | apply below_alloc | apply pw_below_drewN | apply below_drew1 | refine below_set ?_ GE132.out) | exact HB.out))) : w.heap.size ≤ gb136)); have n5_ := Aside0.mk ((by rw [hg]; exact (below_size (by repeat (first | (with_reducible first | exact HB.out | apply below_alloc | apply pw_below_drewN | apply below_drew1 | refine below_set ?_ GE132.out) | exact HB.out))) : w.heap.size ≤ gb136)); have n6_ := Aside0.mk ((by rw [hg]; exact Nat.ne_of_lt (blk_lt (g := gb132) (o := .cells #[.int .i64 ((rd_T104 l0 x13_1).f0.f0), .int .i64 ((rd_T104 l0 x13_1).f0.f1), .bool ((rd_T104 l0 x13_1).f1), .int .i64 ((rd_T104 l0 x13_1).f2.f0), .int .i64 ((rd_T104 l0 x13_1).f2.f1)] 104 (0, 0)) (by (with_reducible repeat (first | refine blk_drewN ?_ _ | refine blk_drew ?_ | refine blk_alloc ?_ _)); exact BK132.out)) : gb132 ≠ gb136)); have n7_ := Aside0.mk ((by rw [hg]; exact Nat.ne_of_gt (blk_lt (g := gb132) (o := .cells #[.int .i64 ((rd_T104 l0 x13_1).f0.f0), .int .i64 ((rd_T104 l0 x13_1).f0.f1), .bool ((rd_T104 l0 x13_1).f1), .int .i64 ((rd_T104 l0 x13_1).f2.f0), .int .i64 ((rd_T104 l0 x13_1).f2.f1)] 104 (0, 0)) (by (with_reducible repeat (first | refine blk_drewN ?_ _ | refine blk_drew ?_ | refine blk_alloc ?_ _)); exact BK132.out)) : gb136 ≠ gb132)); clear HO_6; clear BK132; clear HB; have HO_6 := n0_; have BK132 := n1_; have HB := n2_; have BK136 := n3_; have GW136 := n4_; have GE136 := n5_; have NB132_136 := n6_; have NB136_132 := n7_; clear n0_ n1_ n2_ n3_ n4_ n5_ n6_ n7_; clear hb hbox hg; have hnb19 := NB136_132.out; have hnc19 := NB132_136.out; have hcz20_0 : w18.cell? ⟨gb136, 0, none⟩ = some (.int .i64 0) := (blk_cell BK136.out 0).trans rfl; have hcz20_1 : w18.cell? ⟨gb136, 1, none⟩ = some (.int .i64 0) := (blk_cell BK136.out 1).trans rfl; have hfz20_0 := blk_frozen BK136.out 0; have hfz20_1 := blk_frozen BK136.out 1))
              go_ret2
              exact ⟨_, by first | rfl | (simp [errW_none, errW_some] <;> rfl) | (simp [*, errW_none, errW_some] <;> rfl), by first | exact Kd.R_nil _ _ _ _ _ | exact Kd.N_nil _ _ _ _ _ | exact Kd.V_nil _ _ _ _ _ | exact Kd.Q_nil _ _ _ _ _ | exact Kd.S_nil _ _ _ _ _, by repeat (first | (with_reducible first | exact HB.out | apply below_alloc | apply pw_below_drewN | apply below_drew1 | refine below_set ?_ GE132.out | refine below_set ?_ GE136.out) | exact HB.out)⟩
          · rw [if_neg c4] at H
            exact absurd H (by simp)
        · rw [if_neg c3] at H
          exact absurd H (by simp)
      · rw [if_neg c2] at H
        have c2b0 : decide (x13_1 < (l0.length : Int)) = false := decide_eq_false c2
        clear c2
        simp only [Option.some.injEq, Prod.mk.injEq] at H
        obtain ⟨rfl, rfl⟩ := H
        go_wp2
        go_ret2
        exact ⟨_, by first | rfl | (simp [errW_none, errW_some] <;> rfl) | (simp [*, errW_none, errW_some] <;> rfl), by (with_reducible repeat (first | apply Kd.R_alloc | apply Kd.R_drewN | apply Kd.R_drew)); exact HO_6.out, by repeat (first | (with_reducible first | exact HB.out | apply below_alloc | apply pw_below_drewN | apply below_drew1) | exact HB.out)⟩
end
end Go.Proofs.YtjemaonejkepcaaDoor.G
namespace Go.Proofs.YtjemaonejkepcaaDoor.G
open Go.Proofs.YtjemaonejkepcaaDoor.B
open Go.RowKit Go.Proofs.YtjemaonejkepcaaDoorW.PrintWords Go.Proofs.YtjemaonejkepcaaDoorW.PrintLast Go.Proofs.YtjemaonejkepcaaDoorW.PrintMore
attribute [local go_sem] max2_int min2_int max_two min_two max_three min_three max_four min_four   -- for this text's walks alone
set_option linter.unusedVariables false
set_option linter.unusedSimpArgs false
theorem gauge_losses.tool (tg : List (S27)) (sz : List Int) (gl gs : Nat) (A : Option Addr) (c : Nat) (B : Option Addr) (d : Nat) (k : Nat) (A1 : Option Addr) (c1 : Nat) (l1 : List (S104)) (r1 : List (S25)) (r2 : Int) (w : World) (hr1 : Kd.C k104 w A1 l1.length l1) (hc1 : l1.length ≤ c1) (h : @api_Limits.f (Dat109.mk tg sz) k l1 = some (r1, r2)) (hl : w.heap[gl]? = some (.cells #[.slice A tg.length c] 42 (0, 0))) (hs : w.heap[gs]? = some (.cells #[.slice B sz.length d] 58 (0, 0))) (hC : Kd.C k27 w A tg.length tg) (hD : Kd.C (Kd.int .i64) w B sz.length sz) :
    Calls Tryd.prog 108 #[.slice A1 l1.length c1, .func (.func 109) #[] #[.pointer (some ⟨gl, 0, none⟩), .pointer (some ⟨gs, 0, none⟩)]] w fun e w' => ∃ v0_ : Value, e = .returned (.tuple #[v0_, .int .i64 r2]) ∧ Kd.R k25 25 w' w.heap.size (fun _ => True) v0_ r1 ∧ Below w.heap.size w w' :=
  @api_Limits.calls (Dat109.mk tg sz) (Adr109.mk gl gs A c B d) k A1 c1 l1 r1 r2 w hr1 hc1 h ⟨hl, hs, hC, hD⟩
def gauge_losses.l0 : Nat → List (S25) → Int → Int → Option (List (S25) × Int)
  | 0, _, _, _ => none
  | k + 1, l, n, i => if i < n then (if 0 ≤ i then (if i < (l.length : Int) then (if (rd_T25 l i).f0 < 0 then some (([] : List (S25)), 15) else gauge_losses.l0 k l n (wrap64 (i + 1))) else none) else none) else some (l, 0)
def gauge_losses.f (k : Nat) (l0 : List (S27)) (l1 : List (S104)) : Option (List (S25) × Int) := (gauge_virtual.f k l0).bind fun b => if b.2 = 0 then (if (l1.length : Int) = (l0.length : Int) then ((@api_Limits.f (Dat109.mk l0 b.1) k l1).bind fun c => if c.2 = 0 then gauge_losses.l0 k c.1 (c.1.length : Int) 0 else some (([] : List (S25)), c.2)) else some (([] : List (S25)), 8)) else some (([] : List (S25)), b.2)
theorem gauge_losses.mono_l : ∀ k, (∀ y0 y1 y2, LeO (gauge_losses.l0 k y0 y1 y2) (gauge_losses.l0 (k + 1) y0 y1 y2))
  | 0 => fun _ _ _ r h => by simp [gauge_losses.l0] at h
  | k + 1 => by
      have ih0 := gauge_losses.mono_l k
      intro y0 y1 y2
      unfold gauge_losses.l0
      repeat' first
        | (with_reducible exact ih0 _ _ _)
        | (with_reducible exact ih0 _ _ _ _)
        | (with_reducible exact LeO.refl _)
        | (with_reducible exact LeO.none _)
        | (with_reducible refine LeO.ite ?_ ?_)
        | (with_reducible refine LeO.bind ?_ (fun _ => ?_))
theorem gauge_losses.mono : ∀ a0 a1 k, LeO (gauge_losses.f k a0 a1) (gauge_losses.f (k + 1) a0 a1) := by
  intro a0 a1 k
  have ih0 := gauge_losses.mono_l k
  unfold gauge_losses.f
  exact LeO.bind (gauge_virtual.mono _ _) (fun b => LeO.ite (LeO.ite (LeO.bind (@api_Limits.mono (Dat109.mk a0 b.1) _ _) (fun c => LeO.ite (ih0 _ _ _) (LeO.refl _))) (LeO.refl _)) (LeO.refl _))
set_option maxHeartbeats 8000000 in
set_option maxRecDepth 100000 in
theorem gauge_losses.calls (k : Nat) (A0 : Option Addr) (c0 : Nat) (l0 : List (S27)) (A1 : Option Addr) (c1 : Nat) (l1 : List (S104)) (r1 : List (S25)) (r2 : Int) (w : World) (hr0 : Kd.C k27 w A0 l0.length l0) (hc0 : l0.length ≤ c0) (hr1 : Kd.C k104 w A1 l1.length l1) (hc1 : l1.length ≤ c1) (h : gauge_losses.f k l0 l1 = some (r1, r2)) (hS : SignsAt w) :
    Calls Tryd.prog 83 #[.slice A0 l0.length c0, .slice A1 l1.length c1] w fun e w' => ∃ v0_ : Value, e = .returned (.tuple #[v0_, .int .i64 r2]) ∧ Kd.R k25 25 w' w.heap.size (fun _ => True) v0_ r1 ∧ Below w.heap.size w w' := by
  have HR0 := Aside0.mk hr0
  have HC0 := Aside0.mk hc0
  have HR1 := Aside0.mk hr1
  have HC1 := Aside0.mk hc1
  have HS := Aside0.mk hS
  have HB := Aside0.mk (Below.refl w.heap.size w)
  clear hr0 hc0 hr1 hc1 hS
  have hu25 := Tryd.underlying25
  obtain ⟨⟨sz, t⟩, A30, H⟩ := Option.bind_eq_some_iff.mp h
  replace H : (if t = 0 then (if (l1.length : Int) = (l0.length : Int) then ((@api_Limits.f (Dat109.mk l0 sz) k l1).bind fun c => if c.2 = 0 then gauge_losses.l0 k c.1 (c.1.length : Int) 0 else some (([] : List (S25)), c.2)) else some (([] : List (S25)), 8)) else some (([] : List (S25)), t)) = some (r1, r2) := H
  clear h
  have A3 := Aside0.mk A30
  clear A30
  by_cases c4 : t = 0
  · rw [if_pos c4] at H
    have c4b1 : (t != 0) = false := bne_eq_false_iff_eq.mpr c4
    clear c4
    by_cases c5 : (l1.length : Int) = (l0.length : Int)
    · rw [if_pos c5] at H
      have c5b1 : ((l1.length : Int) != (l0.length : Int)) = false := bne_eq_false_iff_eq.mpr c5
      clear c5
      obtain ⟨⟨q1, q2⟩, A60, H⟩ := Option.bind_eq_some_iff.mp H
      replace H : (if q2 = 0 then gauge_losses.l0 k q1 (q1.length : Int) 0 else some (([] : List (S25)), q2)) = some (r1, r2) := H
      have A6 := Aside0.mk A60
      clear A60
      by_cases c7 : q2 = 0
      · rw [if_pos c7] at H
        have c7b1 : (q2 != 0) = false := bne_eq_false_iff_eq.mpr c7
        clear c7
        have H' := Aside0.mk H
        clear H
        go_enter Tryd.func83, Tryd.ntmps83
        go_upto_region 2 with (first
          | ((with_reducible refine gate_dst (N := 2) rfl ?_); refine box_event ?hg (N := 2) ?hd (cs := #[.slice A0 l0.length c0]) (t := 42) ?hr ?_; (case hd => rfl); (case hg => rfl); (case hr => first | (go_simp; done) | (go_simp; rfl)); intro g2 hg wg2 hbox hb; have m0_ := Aside0.mk (by rw [hg]; exact below_size (by repeat (first | (with_reducible first | exact HB.out | apply below_alloc | apply pw_below_drewN | apply below_drew1) | exact HB.out)) : w.heap.size ≤ g2); have m1_ := Aside0.mk (below_step (by repeat (first | (with_reducible first | exact HB.out | apply below_alloc | apply pw_below_drewN | apply below_drew1) | exact HB.out)) hb); clear HB ; have HB := m1_; have GEg2 := m0_; have B2 := Aside0.mk hbox; clear hg hbox hb; have f2 : wg2.cell? ⟨g2, 0, none⟩ = some (.slice A0 l0.length c0) := (blk_cell B2.out 0).trans rfl)
          | ((with_reducible refine gate_callee (f := 80) rfl ?_); refine goesL_ (some 13) rfl rfl Tryd.func80 (by kernel_rfl) rfl #[.slice A0 l0.length c0] rfl (by (try simp only [List.map_toArray, List.map_cons, List.map_nil]); first | done | rfl | (simp only [List.length_drop, List.length_take]; rfl)) ?_; (with_reducible refine (gauge_virtual.calls k _ _ l0 sz t _ ?side1 ?side2 A3.out (by exact sig_below HS.out (by repeat (first | (with_reducible first | exact HB.out | apply below_alloc | apply pw_below_drewN | apply below_drew1) | exact HB.out)))).mono ?_); (case side1 => repeat (first | exact (Kd.C_below HR0.out HB.out) | (with_reducible refine Kd.C_alloc ?_ _) | (with_reducible refine Kd.C_drewN ?_ _) | (with_reducible refine Kd.C_drew ?_))); (case side2 => exact HC0.out); rintro e w6 ⟨v114, rfl, ho0, hb⟩; refine ⟨_, rfl, ?_⟩; have o0_ := Aside0.mk (blk_below B2.out hb); have n0_ := Aside0.mk (Kd.R_lower ho0 (below_size (by repeat (first | (with_reducible first | exact HB.out | apply below_alloc | apply pw_below_drewN | apply below_drew1) | exact HB.out)))); have n1_ := Aside0.mk (below_step (by repeat (first | (with_reducible first | exact HB.out | apply below_alloc | apply pw_below_drewN | apply below_drew1) | exact HB.out)) hb); clear HB B2; have HO := n0_; have HB := n1_; have B2 := o0_; clear n0_ n1_ hb ho0; obtain ⟨Ao, co, eo⟩ := Kd.R_slice HO.out; subst eo)
          | ((with_reducible refine gate_dst (N := 6) rfl ?_); refine box_event ?hg (N := 6) ?hd (cs := #[.slice none 0 0]) (t := 58) ?hr ?_; (case hd => rfl); (case hg => rfl); (case hr => first | (go_simp; done) | (go_simp; rfl)); intro g6 hg wg6 hbox hb; have m0_ := Aside0.mk (by rw [hg]; exact below_size (by repeat (first | (with_reducible first | exact HB.out | apply below_alloc | apply pw_below_drewN | apply below_drew1) | exact HB.out)) : w.heap.size ≤ g6); have m1_ := Aside0.mk (below_step (by repeat (first | (with_reducible first | exact HB.out | apply below_alloc | apply pw_below_drewN | apply below_drew1) | exact HB.out)) hb); have o0_ := Aside0.mk (blk_below B2.out hb); have q0_ := Aside0.mk (by rw [hg]; exact Nat.ne_of_gt (blk_lt B2.out) : g6 ≠ _); have h_ := Aside0.mk (Kd.R_below (Kd.R_elderB (by (with_reducible repeat (first | apply Kd.R_alloc | apply Kd.R_drewN | apply Kd.R_drew)); exact HO.out) g6 (Nat.le_of_eq hg.symm)) hb); clear HB B2 HO; have HB := m1_; have GEg6 := m0_; have B2 := o0_; have NE62 := q0_; have HO := h_; have B6 := Aside0.mk hbox; clear hg hbox hb; have f0 : wg6.cell? ⟨g6, 0, none⟩ = some (.slice none 0 0) := (blk_cell B6.out 0).trans rfl; have f1 := blk_frozen B6.out 0))
        have HB7 := below_set HB.out (j := 0) (v := (.slice Ao sz.length co)) GEg6.out
        have B27 := blk_far B2.out (p := ⟨g6, 0, none⟩) NE62.out.symm (.slice Ao sz.length co)
        have B67 := blk_put B6.out 0 (.slice Ao sz.length co) rfl
        have HO7 := Kd.R_mono (Kd.R_far (p := ⟨g6, 0, none⟩) HO.out (fun _ hk => hk.2) (.slice Ao sz.length co)) (ok' := fun _ => True) (fun _ _ => trivial)
        generalize wg6.setCell ⟨g6, 0, none⟩ (.slice Ao sz.length co) = w7 at HB7 B27 B67 HO7 ⊢
        clear HB B2 B6 HO f0 f1 NE62
        have HB := Aside0.mk HB7
        have B2 := Aside0.mk B27
        have B6 := Aside0.mk B67
        have HO := Aside0.mk HO7
        have m2 : w7.cell? ⟨g2, 0, none⟩ = some (.slice A0 l0.length c0) := (blk_cell B2.out 0).trans rfl
        clear HB7 B27 B67 HO7
        go_wp2_with (first | (go_at_call 108; (with_reducible refine (gauge_losses.tool l0 sz g2 g6 A0 c0 Ao co k _ _ l1 q1 q2 _ ?side1 ?side2 A6.out ?side3 ?side4 ?side5 ?side6).mono ?_); (case side1 => repeat (first | exact (Kd.C_below HR1.out HB.out) | (with_reducible refine Kd.C_alloc ?_ _) | (with_reducible refine Kd.C_drewN ?_ _) | (with_reducible refine Kd.C_drew ?_))); (case side2 => exact HC1.out); (case side3 => exact B2.out); (case side4 => exact B6.out); (case side5 => exact (Kd.C_below HR0.out HB.out)); (case side6 => exact (Kd.R_reads' HO.out).2.2); rintro e w8 ⟨v114, rfl, ho0, hb⟩; have n0_ := Aside0.mk (Kd.R_lower ho0 (below_size (by repeat (first | (with_reducible first | exact HB.out | apply below_alloc | apply pw_below_drewN | apply below_drew1) | exact HB.out)))); have n1_ := Aside0.mk (below_step (by repeat (first | (with_reducible first | exact HB.out | apply below_alloc | apply pw_below_drewN | apply below_drew1) | exact HB.out)) hb); clear HB HO B2 B6 m2; have HO1 := n0_; have HB := n1_; clear n0_ n1_ hb ho0; obtain ⟨Ar, cr, er⟩ := Kd.R_slice HO1.out; subst er))
        go_loopg [35] k (fun kq v35 w' => ∃ (i : Int), v35 = .int .i64 i ∧ Aside0 (gauge_losses.l0 kq q1 (q1.length : Int) i = some (r1, r2)) ∧ Aside0 (kq ≤ k) ∧ Aside0 (Kd.R k25 25 w' w.heap.size (fun _ => True) (.slice Ar q1.length cr) q1) ∧ Aside0 (Below w.heap.size w w'))
        case atStart => exact ⟨(0), (by first | rfl | (simp; done) | (simp [*]; done)), H', ⟨Nat.le_refl _⟩, ⟨by (with_reducible repeat (first | apply Kd.R_alloc | apply Kd.R_drewN | apply Kd.R_drew)); exact HO1.out⟩, ⟨by repeat (first | (with_reducible first | exact HB.out | apply below_alloc | apply pw_below_drewN | apply below_drew1) | exact HB.out)⟩⟩
        case round =>
          clear H' HO1
          obtain ⟨i, rfl, HA, HK1, HO_, HB⟩ := hrel
          cases gk with
          | zero => exact absurd HA.out (by simp [gauge_losses.l0])
          | succ k1 =>
            have H := HA.out
            clear HA
            simp only [gauge_losses.l0] at H
            by_cases c8 : i < (q1.length : Int)
            · rw [if_pos c8] at H
              by_cases c9 : 0 ≤ i
              · rw [if_pos c9, if_pos c8] at H
                obtain ⟨ad, e, hx0, hx1⟩ := at_T25 (Kd.R_reads' HO_.out).2.2 i c9 c8
                cases e
                have c8b := decide_eq_true c8
                have p1 := eq_true c9
                have p2 := eq_true c8
                clear c8 c9
                by_cases cl : (rd_T25 q1 i).f0 < 0
                · rw [if_pos cl] at H
                  simp only [Option.some.injEq, Prod.mk.injEq] at H
                  obtain ⟨rfl, rfl⟩ := H
                  have clb := decide_eq_true cl
                  clear cl
                  go_wp2_with (first | ((with_reducible refine gate_dst (N := 10) rfl ?_); refine box_event ?hg (N := 10) ?hd (cs := #[.int .i64 0, .int .i64 0]) (t := 25) ?hr ?_; (case hd => rfl); (case hg => rfl); (case hr => first | (go_simp; done) | (go_simp; rfl)); intro gb hg w11 hbox hb; have n0_ := Aside0.mk (Kd.R_below (Kd.R_elderB (by (with_reducible repeat (first | apply Kd.R_alloc | apply Kd.R_drewN | apply Kd.R_drew)); exact HO_.out) gb (Nat.le_of_eq hg.symm)) hb); have n1_ := Aside0.mk (below_step (by repeat (first | (with_reducible first | exact HB.out | apply below_alloc | apply pw_below_drewN | apply below_drew1) | exact HB.out)) hb); have GE := Aside0.mk (by rw [hg]; exact below_size (by repeat (first | (with_reducible first | exact HB.out | apply below_alloc | apply pw_below_drewN | apply below_drew1) | exact HB.out)) : w.heap.size ≤ gb); have BK := Aside0.mk hbox; clear HO_ HB; have HO_ := n0_; have HB := n1_; clear n0_ n1_ hb hbox hg; have hcz0 : w11.cell? ⟨gb, 0, none⟩ = some (.int .i64 0) := (blk_cell BK.out 0).trans rfl; have hcz1 : w11.cell? ⟨gb, 1, none⟩ = some (.int .i64 0) := (blk_cell BK.out 1).trans rfl; have hfz0 := blk_frozen BK.out 0; have hfz1 := blk_frozen BK.out 1))
                  go_ret2
                  exact ⟨_, by first | rfl | (simp [errW_none, errW_some] <;> rfl) | (simp [*, errW_none, errW_some] <;> rfl), by first | exact Kd.R_nil _ _ _ _ _, by repeat (first | (with_reducible first | exact HB.out | apply below_alloc | apply pw_below_drewN | apply below_drew1 | refine below_set ?_ GE.out) | exact HB.out)⟩
                · rw [if_neg cl] at H
                  have H' := Aside0.mk H
                  clear H
                  have clb := decide_eq_false cl
                  clear cl
                  go_wp2_with (first | ((with_reducible refine gate_dst (N := 10) rfl ?_); refine box_event ?hg (N := 10) ?hd (cs := #[.int .i64 0, .int .i64 0]) (t := 25) ?hr ?_; (case hd => rfl); (case hg => rfl); (case hr => first | (go_simp; done) | (go_simp; rfl)); intro gb hg w11 hbox hb; have n0_ := Aside0.mk (Kd.R_below (Kd.R_elderB (by (with_reducible repeat (first | apply Kd.R_alloc | apply Kd.R_drewN | apply Kd.R_drew)); exact HO_.out) gb (Nat.le_of_eq hg.symm)) hb); have n1_ := Aside0.mk (below_step (by repeat (first | (with_reducible first | exact HB.out | apply below_alloc | apply pw_below_drewN | apply below_drew1) | exact HB.out)) hb); have GE := Aside0.mk (by rw [hg]; exact below_size (by repeat (first | (with_reducible first | exact HB.out | apply below_alloc | apply pw_below_drewN | apply below_drew1) | exact HB.out)) : w.heap.size ≤ gb); have BK := Aside0.mk hbox; clear HO_ HB; have HO_ := n0_; have HB := n1_; clear n0_ n1_ hb hbox hg; have hcz0 : w11.cell? ⟨gb, 0, none⟩ = some (.int .i64 0) := (blk_cell BK.out 0).trans rfl; have hcz1 : w11.cell? ⟨gb, 1, none⟩ = some (.int .i64 0) := (blk_cell BK.out 1).trans rfl; have hfz0 := blk_frozen BK.out 0; have hfz1 := blk_frozen BK.out 1))
                  go_roundg k1
                  case measure => have := HK1.out; omega
                  case rel => exact ⟨(wrap64 (i + 1)), (by first | rfl | (simp; done) | (simp [*]; done)), H', ⟨by have := HK1.out; omega⟩, ⟨by (with_reducible repeat (first | apply Kd.R_alloc | apply Kd.R_drewN | apply Kd.R_drew)); exact Kd.R_mono (Kd.R_far (p := ⟨gb, 1, none⟩) (Kd.R_far (p := ⟨gb, 0, none⟩) (Kd.R_mono HO_.out (fun k_ hk => (⟨hk, hk.2⟩ : _ ∧ k_ ≠ gb))) (fun _ hk => hk.2) (.int .i64 ((rd_T25 q1 i).f0))) (fun _ hk => hk.2) (.int .i64 ((rd_T25 q1 i).f1))) (fun _ hk => trivial)⟩, ⟨by repeat (first | (with_reducible first | exact HB.out | apply below_alloc | apply pw_below_drewN | apply below_drew1 | refine below_set ?_ GE.out) | exact HB.out)⟩⟩
              · rw [if_neg c9] at H
                exact absurd H (by simp)
            · rw [if_neg c8] at H
              have c8b := decide_eq_false c8
              clear c8
              simp only [Option.some.injEq, Prod.mk.injEq] at H
              obtain ⟨rfl, rfl⟩ := H
              go_wp2
              go_ret2
              exact ⟨_, rfl, by (with_reducible repeat (first | apply Kd.R_alloc | apply Kd.R_drewN | apply Kd.R_drew)); exact HO_.out, by repeat (first | (with_reducible first | exact HB.out | apply below_alloc | apply pw_below_drewN | apply below_drew1) | exact HB.out)⟩
      · rw [if_neg c7] at H
        have c7b1 : (q2 != 0) = true := bne_iff_ne.mpr c7
        clear c7
        simp only [Option.some.injEq, Prod.mk.injEq] at H
        obtain ⟨rfl, rfl⟩ := H
        go_enter Tryd.func83, Tryd.ntmps83
        go_upto_region 2 with (first
          | ((with_reducible refine gate_dst (N := 2) rfl ?_); refine box_event ?hg (N := 2) ?hd (cs := #[.slice A0 l0.length c0]) (t := 42) ?hr ?_; (case hd => rfl); (case hg => rfl); (case hr => first | (go_simp; done) | (go_simp; rfl)); intro g2 hg wg2 hbox hb; have m0_ := Aside0.mk (by rw [hg]; exact below_size (by repeat (first | (with_reducible first | exact HB.out | apply below_alloc | apply pw_below_drewN | apply below_drew1) | exact HB.out)) : w.heap.size ≤ g2); have m1_ := Aside0.mk (below_step (by repeat (first | (with_reducible first | exact HB.out | apply below_alloc | apply pw_below_drewN | apply below_drew1) | exact HB.out)) hb); clear HB ; have HB := m1_; have GEg2 := m0_; have B2 := Aside0.mk hbox; clear hg hbox hb; have f2 : wg2.cell? ⟨g2, 0, none⟩ = some (.slice A0 l0.length c0) := (blk_cell B2.out 0).trans rfl)
          | ((with_reducible refine gate_callee (f := 80) rfl ?_); refine goesL_ (some 13) rfl rfl Tryd.func80 (by kernel_rfl) rfl #[.slice A0 l0.length c0] rfl (by (try simp only [List.map_toArray, List.map_cons, List.map_nil]); first | done | rfl | (simp only [List.length_drop, List.length_take]; rfl)) ?_; (with_reducible refine (gauge_virtual.calls k _ _ l0 sz t _ ?side1 ?side2 A3.out (by exact sig_below HS.out (by repeat (first | (with_reducible first | exact HB.out | apply below_alloc | apply pw_below_drewN | apply below_drew1) | exact HB.out)))).mono ?_); (case side1 => repeat (first | exact (Kd.C_below HR0.out HB.out) | (with_reducible refine Kd.C_alloc ?_ _) | (with_reducible refine Kd.C_drewN ?_ _) | (with_reducible refine Kd.C_drew ?_))); (case side2 => exact HC0.out); rintro e w6 ⟨v114, rfl, ho0, hb⟩; refine ⟨_, rfl, ?_⟩; have o0_ := Aside0.mk (blk_below B2.out hb); have n0_ := Aside0.mk (Kd.R_lower ho0 (below_size (by repeat (first | (with_reducible first | exact HB.out | apply below_alloc | apply pw_below_drewN | apply below_drew1) | exact HB.out)))); have n1_ := Aside0.mk (below_step (by repeat (first | (with_reducible first | exact HB.out | apply below_alloc | apply pw_below_drewN | apply below_drew1) | exact HB.out)) hb); clear HB B2; have HO := n0_; have HB := n1_; have B2 := o0_; clear n0_ n1_ hb ho0; obtain ⟨Ao, co, eo⟩ := Kd.R_slice HO.out; subst eo)
          | ((with_reducible refine gate_dst (N := 6) rfl ?_); refine box_event ?hg (N := 6) ?hd (cs := #[.slice none 0 0]) (t := 58) ?hr ?_; (case hd => rfl); (case hg => rfl); (case hr => first | (go_simp; done) | (go_simp; rfl)); intro g6 hg wg6 hbox hb; have m0_ := Aside0.mk (by rw [hg]; exact below_size (by repeat (first | (with_reducible first | exact HB.out | apply below_alloc | apply pw_below_drewN | apply below_drew1) | exact HB.out)) : w.heap.size ≤ g6); have m1_ := Aside0.mk (below_step (by repeat (first | (with_reducible first | exact HB.out | apply below_alloc | apply pw_below_drewN | apply below_drew1) | exact HB.out)) hb); have o0_ := Aside0.mk (blk_below B2.out hb); have q0_ := Aside0.mk (by rw [hg]; exact Nat.ne_of_gt (blk_lt B2.out) : g6 ≠ _); have h_ := Aside0.mk (Kd.R_below (Kd.R_elderB (by (with_reducible repeat (first | apply Kd.R_alloc | apply Kd.R_drewN | apply Kd.R_drew)); exact HO.out) g6 (Nat.le_of_eq hg.symm)) hb); clear HB B2 HO; have HB := m1_; have GEg6 := m0_; have B2 := o0_; have NE62 := q0_; have HO := h_; have B6 := Aside0.mk hbox; clear hg hbox hb; have f0 : wg6.cell? ⟨g6, 0, none⟩ = some (.slice none 0 0) := (blk_cell B6.out 0).trans rfl; have f1 := blk_frozen B6.out 0))
        have HB7 := below_set HB.out (j := 0) (v := (.slice Ao sz.length co)) GEg6.out
        have B27 := blk_far B2.out (p := ⟨g6, 0, none⟩) NE62.out.symm (.slice Ao sz.length co)
        have B67 := blk_put B6.out 0 (.slice Ao sz.length co) rfl
        have HO7 := Kd.R_mono (Kd.R_far (p := ⟨g6, 0, none⟩) HO.out (fun _ hk => hk.2) (.slice Ao sz.length co)) (ok' := fun _ => True) (fun _ _ => trivial)
        generalize wg6.setCell ⟨g6, 0, none⟩ (.slice Ao sz.length co) = w7 at HB7 B27 B67 HO7 ⊢
        clear HB B2 B6 HO f0 f1 NE62
        have HB := Aside0.mk HB7
        have B2 := Aside0.mk B27
        have B6 := Aside0.mk B67
        have HO := Aside0.mk HO7
        have m2 : w7.cell? ⟨g2, 0, none⟩ = some (.slice A0 l0.length c0) := (blk_cell B2.out 0).trans rfl
        clear HB7 B27 B67 HO7
        go_wp2_with (first | (go_at_call 108; (with_reducible refine (gauge_losses.tool l0 sz g2 g6 A0 c0 Ao co k _ _ l1 q1 q2 _ ?side1 ?side2 A6.out ?side3 ?side4 ?side5 ?side6).mono ?_); (case side1 => repeat (first | exact (Kd.C_below HR1.out HB.out) | (with_reducible refine Kd.C_alloc ?_ _) | (with_reducible refine Kd.C_drewN ?_ _) | (with_reducible refine Kd.C_drew ?_))); (case side2 => exact HC1.out); (case side3 => exact B2.out); (case side4 => exact B6.out); (case side5 => exact (Kd.C_below HR0.out HB.out)); (case side6 => exact (Kd.R_reads' HO.out).2.2); rintro e w8 ⟨v114, rfl, ho0, hb⟩; have n0_ := Aside0.mk (Kd.R_lower ho0 (below_size (by repeat (first | (with_reducible first | exact HB.out | apply below_alloc | apply pw_below_drewN | apply below_drew1) | exact HB.out)))); have n1_ := Aside0.mk (below_step (by repeat (first | (with_reducible first | exact HB.out | apply below_alloc | apply pw_below_drewN | apply below_drew1) | exact HB.out)) hb); clear HB HO B2 B6 m2; have HO1 := n0_; have HB := n1_; clear n0_ n1_ hb ho0; obtain ⟨Ar, cr, er⟩ := Kd.R_slice HO1.out; subst er))
        go_ret2
        exact ⟨_, by first | rfl | (simp [errW_none, errW_some] <;> rfl) | (simp [*, errW_none, errW_some] <;> rfl), by first | exact Kd.R_nil _ _ _ _ _, by repeat (first | (with_reducible first | exact HB.out | apply below_alloc | apply pw_below_drewN | apply below_drew1) | exact HB.out)⟩
    · rw [if_neg c5] at H
      have c5b1 : ((l1.length : Int) != (l0.length : Int)) = true := bne_iff_ne.mpr c5
      clear c5
      simp only [Option.some.injEq, Prod.mk.injEq] at H
      obtain ⟨rfl, rfl⟩ := H
      go_enter Tryd.func83, Tryd.ntmps83
      go_upto_region 2 with (first
        | ((with_reducible refine gate_dst (N := 2) rfl ?_); refine box_event ?hg (N := 2) ?hd (cs := #[.slice A0 l0.length c0]) (t := 42) ?hr ?_; (case hd => rfl); (case hg => rfl); (case hr => first | (go_simp; done) | (go_simp; rfl)); intro g2 hg wg2 hbox hb; have m0_ := Aside0.mk (by rw [hg]; exact below_size (by repeat (first | (with_reducible first | exact HB.out | apply below_alloc | apply pw_below_drewN | apply below_drew1) | exact HB.out)) : w.heap.size ≤ g2); have m1_ := Aside0.mk (below_step (by repeat (first | (with_reducible first | exact HB.out | apply below_alloc | apply pw_below_drewN | apply below_drew1) | exact HB.out)) hb); clear HB ; have HB := m1_; have GEg2 := m0_; have B2 := Aside0.mk hbox; clear hg hbox hb; have f2 : wg2.cell? ⟨g2, 0, none⟩ = some (.slice A0 l0.length c0) := (blk_cell B2.out 0).trans rfl)
        | ((with_reducible refine gate_callee (f := 80) rfl ?_); refine goesL_ (some 13) rfl rfl Tryd.func80 (by kernel_rfl) rfl #[.slice A0 l0.length c0] rfl (by (try simp only [List.map_toArray, List.map_cons, List.map_nil]); first | done | rfl | (simp only [List.length_drop, List.length_take]; rfl)) ?_; (with_reducible refine (gauge_virtual.calls k _ _ l0 sz t _ ?side1 ?side2 A3.out (by exact sig_below HS.out (by repeat (first | (with_reducible first | exact HB.out | apply below_alloc | apply pw_below_drewN | apply below_drew1) | exact HB.out)))).mono ?_); (case side1 => repeat (first | exact (Kd.C_below HR0.out HB.out) | (with_reducible refine Kd.C_alloc ?_ _) | (with_reducible refine Kd.C_drewN ?_ _) | (with_reducible refine Kd.C_drew ?_))); (case side2 => exact HC0.out); rintro e w6 ⟨v114, rfl, ho0, hb⟩; refine ⟨_, rfl, ?_⟩; have o0_ := Aside0.mk (blk_below B2.out hb); have n0_ := Aside0.mk (Kd.R_lower ho0 (below_size (by repeat (first | (with_reducible first | exact HB.out | apply below_alloc | apply pw_below_drewN | apply below_drew1) | exact HB.out)))); have n1_ := Aside0.mk (below_step (by repeat (first | (with_reducible first | exact HB.out | apply below_alloc | apply pw_below_drewN | apply below_drew1) | exact HB.out)) hb); clear HB B2; have HO := n0_; have HB := n1_; have B2 := o0_; clear n0_ n1_ hb ho0; obtain ⟨Ao, co, eo⟩ := Kd.R_slice HO.out; subst eo)
        | ((with_reducible refine gate_dst (N := 6) rfl ?_); refine box_event ?hg (N := 6) ?hd (cs := #[.slice none 0 0]) (t := 58) ?hr ?_; (case hd => rfl); (case hg => rfl); (case hr => first | (go_simp; done) | (go_simp; rfl)); intro g6 hg wg6 hbox hb; have m0_ := Aside0.mk (by rw [hg]; exact below_size (by repeat (first | (with_reducible first | exact HB.out | apply below_alloc | apply pw_below_drewN | apply below_drew1) | exact HB.out)) : w.heap.size ≤ g6); have m1_ := Aside0.mk (below_step (by repeat (first | (with_reducible first | exact HB.out | apply below_alloc | apply pw_below_drewN | apply below_drew1) | exact HB.out)) hb); have o0_ := Aside0.mk (blk_below B2.out hb); have q0_ := Aside0.mk (by rw [hg]; exact Nat.ne_of_gt (blk_lt B2.out) : g6 ≠ _); have h_ := Aside0.mk (Kd.R_below (Kd.R_elderB (by (with_reducible repeat (first | apply Kd.R_alloc | apply Kd.R_drewN | apply Kd.R_drew)); exact HO.out) g6 (Nat.le_of_eq hg.symm)) hb); clear HB B2 HO; have HB := m1_; have GEg6 := m0_; have B2 := o0_; have NE62 := q0_; have HO := h_; have B6 := Aside0.mk hbox; clear hg hbox hb; have f0 : wg6.cell? ⟨g6, 0, none⟩ = some (.slice none 0 0) := (blk_cell B6.out 0).trans rfl; have f1 := blk_frozen B6.out 0))
      have HB7 := below_set HB.out (j := 0) (v := (.slice Ao sz.length co)) GEg6.out
      have B27 := blk_far B2.out (p := ⟨g6, 0, none⟩) NE62.out.symm (.slice Ao sz.length co)
      have B67 := blk_put B6.out 0 (.slice Ao sz.length co) rfl
      have HO7 := Kd.R_mono (Kd.R_far (p := ⟨g6, 0, none⟩) HO.out (fun _ hk => hk.2) (.slice Ao sz.length co)) (ok' := fun _ => True) (fun _ _ => trivial)
      generalize wg6.setCell ⟨g6, 0, none⟩ (.slice Ao sz.length co) = w7 at HB7 B27 B67 HO7 ⊢
      clear HB B2 B6 HO f0 f1 NE62
      have HB := Aside0.mk HB7
      have B2 := Aside0.mk B27
      have B6 := Aside0.mk B67
      have HO := Aside0.mk HO7
      have m2 : w7.cell? ⟨g2, 0, none⟩ = some (.slice A0 l0.length c0) := (blk_cell B2.out 0).trans rfl
      clear HB7 B27 B67 HO7
      go_wp2
      go_ret2
      exact ⟨_, by first | rfl | (simp [errW_none, errW_some] <;> rfl) | (simp [*, errW_none, errW_some] <;> rfl), by first | exact Kd.R_nil _ _ _ _ _, by repeat (first | (with_reducible first | exact HB.out | apply below_alloc | apply pw_below_drewN | apply below_drew1) | exact HB.out)⟩
  · rw [if_neg c4] at H
    have c4b1 : (t != 0) = true := bne_iff_ne.mpr c4
    clear c4
    simp only [Option.some.injEq, Prod.mk.injEq] at H
    obtain ⟨rfl, rfl⟩ := H
    go_enter Tryd.func83, Tryd.ntmps83
    go_upto_region 2 with (first
      | ((with_reducible refine gate_dst (N := 2) rfl ?_); refine box_event ?hg (N := 2) ?hd (cs := #[.slice A0 l0.length c0]) (t := 42) ?hr ?_; (case hd => rfl); (case hg => rfl); (case hr => first | (go_simp; done) | (go_simp; rfl)); intro g2 hg wg2 hbox hb; have m0_ := Aside0.mk (by rw [hg]; exact below_size (by repeat (first | (with_reducible first | exact HB.out | apply below_alloc | apply pw_below_drewN | apply below_drew1) | exact HB.out)) : w.heap.size ≤ g2); have m1_ := Aside0.mk (below_step (by repeat (first | (with_reducible first | exact HB.out | apply below_alloc | apply pw_below_drewN | apply below_drew1) | exact HB.out)) hb); clear HB ; have HB := m1_; have GEg2 := m0_; have B2 := Aside0.mk hbox; clear hg hbox hb; have f2 : wg2.cell? ⟨g2, 0, none⟩ = some (.slice A0 l0.length c0) := (blk_cell B2.out 0).trans rfl)
      | ((with_reducible refine gate_callee (f := 80) rfl ?_); refine goesL_ (some 13) rfl rfl Tryd.func80 (by kernel_rfl) rfl #[.slice A0 l0.length c0] rfl (by (try simp only [List.map_toArray, List.map_cons, List.map_nil]); first | done | rfl | (simp only [List.length_drop, List.length_take]; rfl)) ?_; (with_reducible refine (gauge_virtual.calls k _ _ l0 sz t _ ?side1 ?side2 A3.out (by exact sig_below HS.out (by repeat (first | (with_reducible first | exact HB.out | apply below_alloc | apply pw_below_drewN | apply below_drew1) | exact HB.out)))).mono ?_); (case side1 => repeat (first | exact (Kd.C_below HR0.out HB.out) | (with_reducible refine Kd.C_alloc ?_ _) | (with_reducible refine Kd.C_drewN ?_ _) | (with_reducible refine Kd.C_drew ?_))); (case side2 => exact HC0.out); rintro e w6 ⟨v114, rfl, ho0, hb⟩; refine ⟨_, rfl, ?_⟩; have o0_ := Aside0.mk (blk_below B2.out hb); have n0_ := Aside0.mk (Kd.R_lower ho0 (below_size (by repeat (first | (with_reducible first | exact HB.out | apply below_alloc | apply pw_below_drewN | apply below_drew1) | exact HB.out)))); have n1_ := Aside0.mk (below_step (by repeat (first | (with_reducible first | exact HB.out | apply below_alloc | apply pw_below_drewN | apply below_drew1) | exact HB.out)) hb); clear HB B2; have HO := n0_; have HB := n1_; have B2 := o0_; clear n0_ n1_ hb ho0; obtain ⟨Ao, co, eo⟩ := Kd.R_slice HO.out; subst eo)
      | ((with_reducible refine gate_dst (N := 6) rfl ?_); refine box_event ?hg (N := 6) ?hd (cs := #[.slice none 0 0]) (t := 58) ?hr ?_; (case hd => rfl); (case hg => rfl); (case hr => first | (go_simp; done) | (go_simp; rfl)); intro g6 hg wg6 hbox hb; have m0_ := Aside0.mk (by rw [hg]; exact below_size (by repeat (first | (with_reducible first | exact HB.out | apply below_alloc | apply pw_below_drewN | apply below_drew1) | exact HB.out)) : w.heap.size ≤ g6); have m1_ := Aside0.mk (below_step (by repeat (first | (with_reducible first | exact HB.out | apply below_alloc | apply pw_below_drewN | apply below_drew1) | exact HB.out)) hb); have o0_ := Aside0.mk (blk_below B2.out hb); have q0_ := Aside0.mk (by rw [hg]; exact Nat.ne_of_gt (blk_lt B2.out) : g6 ≠ _); have h_ := Aside0.mk (Kd.R_below (Kd.R_elderB (by (with_reducible repeat (first | apply Kd.R_alloc | apply Kd.R_drewN | apply Kd.R_drew)); exact HO.out) g6 (Nat.le_of_eq hg.symm)) hb); clear HB B2 HO; have HB := m1_; have GEg6 := m0_; have B2 := o0_; have NE62 := q0_; have HO := h_; have B6 := Aside0.mk hbox; clear hg hbox hb; have f0 : wg6.cell? ⟨g6, 0, none⟩ = some (.slice none 0 0) := (blk_cell B6.out 0).trans rfl; have f1 := blk_frozen B6.out 0))
    have HB7 := below_set HB.out (j := 0) (v := (.slice Ao sz.length co)) GEg6.out
    have B27 := blk_far B2.out (p := ⟨g6, 0, none⟩) NE62.out.symm (.slice Ao sz.length co)
    have B67 := blk_put B6.out 0 (.slice Ao sz.length co) rfl
    have HO7 := Kd.R_mono (Kd.R_far (p := ⟨g6, 0, none⟩) HO.out (fun _ hk => hk.2) (.slice Ao sz.length co)) (ok' := fun _ => True) (fun _ _ => trivial)
    generalize wg6.setCell ⟨g6, 0, none⟩ (.slice Ao sz.length co) = w7 at HB7 B27 B67 HO7 ⊢
    clear HB B2 B6 HO f0 f1 NE62
    have HB := Aside0.mk HB7
    have B2 := Aside0.mk B27
    have B6 := Aside0.mk B67
    have HO := Aside0.mk HO7
    have m2 : w7.cell? ⟨g2, 0, none⟩ = some (.slice A0 l0.length c0) := (blk_cell B2.out 0).trans rfl
    clear HB7 B27 B67 HO7
    go_wp2
    go_ret2
    exact ⟨_, by first | rfl | (simp [errW_none, errW_some] <;> rfl) | (simp [*, errW_none, errW_some] <;> rfl), by first | exact Kd.R_nil _ _ _ _ _, by repeat (first | (with_reducible first | exact HB.out | apply below_alloc | apply pw_below_drewN | apply below_drew1) | exact HB.out)⟩
end Go.Proofs.YtjemaonejkepcaaDoor.G
namespace Go.Proofs.YtjemaonejkepcaaDoor.G
open Go.Proofs.YtjemaonejkepcaaDoor.B
open Go.RowKit Go.Proofs.YtjemaonejkepcaaDoorW.PrintWords Go.Proofs.YtjemaonejkepcaaDoorW.PrintLast Go.Proofs.YtjemaonejkepcaaDoorW.PrintMore
attribute [local go_sem] max2_int min2_int max_two min_two max_three min_three max_four min_four   -- for this text's walks alone
set_option linter.unusedVariables false
set_option linter.unusedSimpArgs false
def gauge_Loss.l0 : Nat → Int → List (S25) → Int → Int → Option (Int × Int)
  | 0, _, _, _, _ => none
  | k + 1, x8, x20, x21, x22 => if x22 < x21 then (if 0 ≤ x22 then (if x22 < (x20.length : Int) then (gauge_Loss.l0 k (mx x8 ((rd_T25 x20 x22).f1)) x20 x21 (wrap64 (x22 + 1))) else (none)) else (none)) else (some (x8, 0))
def gauge_Loss.f (k : Nat) (l0 : List (S27)) (l1 : List (S104)) : Option (Int × Int) := (gauge_losses.f k l0 l1).bind fun bt140 => (if bt140.2 = 0 then (gauge_Loss.l0 k 0 bt140.1 (bt140.1.length : Int) 0) else (some (0, bt140.2)))
theorem gauge_Loss.mono_l : ∀ k, (∀ y0 y1 y2 y3, LeO (gauge_Loss.l0 k y0 y1 y2 y3) (gauge_Loss.l0 (k + 1) y0 y1 y2 y3))
  | 0 => fun _ _ _ _ r h => by simp [gauge_Loss.l0] at h
  | k + 1 => by
    have ih0 := gauge_Loss.mono_l k
    · intro y0 y1 y2 y3
      unfold gauge_Loss.l0
      repeat' first
      | (with_reducible exact ih0 _ _ _ _)
      | (with_reducible exact gauge_losses.mono _ _ _)
      | (with_reducible exact LeO.refl _)
      | (with_reducible exact LeO.none _)
      | (with_reducible refine LeO.ite ?_ ?_)
      | (with_reducible refine LeO.bind ?_ (fun _ => ?_))
      | exact ih0 _ _ _ _
      | exact gauge_losses.mono _ _ _
      | exact LeO.none _
      | refine LeO.ite ?_ ?_
      | refine LeO.bind ?_ (fun _ => ?_)
theorem gauge_Loss.mono : ∀ a0 a1 k, LeO (gauge_Loss.f k a0 a1) (gauge_Loss.f (k + 1) a0 a1) := by
  intro a0 a1 k
  have ih0 := gauge_Loss.mono_l k
  unfold gauge_Loss.f
  repeat' first
      | (with_reducible exact ih0 _ _ _ _)
      | (with_reducible exact gauge_losses.mono _ _ _)
      | (with_reducible exact LeO.refl _)
      | (with_reducible exact LeO.none _)
      | (with_reducible refine LeO.ite ?_ ?_)
      | (with_reducible refine LeO.bind ?_ (fun _ => ?_))
      | exact ih0 _ _ _ _
      | exact gauge_losses.mono _ _ _
      | exact LeO.none _
      | refine LeO.ite ?_ ?_
      | refine LeO.bind ?_ (fun _ => ?_)
set_option maxHeartbeats 8000000 in
set_option maxRecDepth 100000 in
theorem gauge_Loss.calls (k : Nat) (A0 : Option Addr) (c0 : Nat) (l0 : List (S27)) (A1 : Option Addr) (c1 : Nat) (l1 : List (S104)) (r1 : Int) (r2 : Int) (w : World) (hr0 : Kd.C k27 w A0 l0.length l0) (hc0 : l0.length ≤ c0) (hr1 : Kd.C k104 w A1 l1.length l1) (hc1 : l1.length ≤ c1) (h : gauge_Loss.f k l0 l1 = some (r1, r2)) (hS : SignsAt w) :
    Calls Tryd.prog 32 #[.slice A0 l0.length c0, .slice A1 l1.length c1] w fun e w' => e = .returned (.tuple #[.int .i64 r1, .int .i64 r2]) ∧ Below w.heap.size w w' := by
  have HS := Aside0.mk hS
  clear hS
  have hu25 := Tryd.underlying25
  have HR0 := Aside0.mk hr0
  have HC0 := Aside0.mk hc0
  clear hr0 hc0
  have HR1 := Aside0.mk hr1
  have HC1 := Aside0.mk hc1
  clear hr1 hc1
  have HB := Aside0.mk (Below.refl w.heap.size w)
  have H : ((gauge_losses.f k l0 l1).bind fun bt140 => (if bt140.2 = 0 then (gauge_Loss.l0 k 0 bt140.1 (bt140.1.length : Int) 0) else (some (0, bt140.2)))) = some (r1, r2) := h
  clear h
  replace H := Option.bind_eq_some_iff.mp H
  obtain ⟨⟨t140, t141⟩, A30, H⟩ := H
  replace H : (if t141 = 0 then (gauge_Loss.l0 k 0 t140 (t140.length : Int) 0) else (some (0, t141))) = some (r1, r2) := H
  have A3 := Aside0.mk A30
  clear A30
  by_cases c4 : t141 = 0
  · rw [if_pos c4] at H
    have c4b0 : (t141 == 0) = true := beq_iff_eq.mpr c4
    have c4b1 : (t141 != 0) = false := bne_eq_false_iff_eq.mpr c4
    clear c4
    have H' := Aside0.mk H
    clear H
    go_enter Tryd.func32, Tryd.ntmps32
    go_wp2_with (first | ((with_reducible refine gate_callee (f := 83) rfl ?_); refine goesL_ (some 14) rfl rfl Tryd.func83 (by kernel_rfl) rfl #[.slice A0 l0.length c0, .slice A1 l1.length c1] rfl (by (try simp only [List.map_toArray, List.map_cons, List.map_nil]); first | done | rfl | (simp only [List.length_drop, List.length_take]; rfl)) ?_; (with_reducible refine (gauge_losses.calls k _ _ l0 _ _ l1 t140 t141 _ ?side1 ?side2 ?side3 ?side4 A3.out (by exact sig_below HS.out (by repeat (first | (with_reducible first | exact HB.out | apply below_alloc | apply pw_below_drewN | apply below_drew1 | refine below_set ?_ GE145.out) | exact HB.out)))).mono ?_); (case side1 => repeat (first | exact HR0.out | (with_reducible refine Kd.C_alloc ?_ _) | (with_reducible refine Kd.C_drewN ?_ _) | (with_reducible refine Kd.C_drew ?_))); (case side2 => exact HC0.out); (case side3 => repeat (first | exact HR1.out | (with_reducible refine Kd.C_alloc ?_ _) | (with_reducible refine Kd.C_drewN ?_ _) | (with_reducible refine Kd.C_drew ?_))); (case side4 => exact HC1.out); rintro e w5 ⟨v142, rfl, ho0, hb⟩; refine ⟨_, rfl, ?_⟩; have n0_ := Aside0.mk (Kd.R_lower ho0 (below_size (by repeat (first | (with_reducible first | exact HB.out | apply below_alloc | apply pw_below_drewN | apply below_drew1) | exact HB.out)))); have n1_ := Aside0.mk (below_step (by repeat (first | (with_reducible first | exact HB.out | apply below_alloc | apply pw_below_drewN | apply below_drew1) | exact HB.out)) hb); clear HB; have HO143 := n0_; have HB := n1_; clear n0_ n1_; (try clear hb); (try clear hb2); (try clear hk); (try clear hi); (try clear ho0); obtain ⟨Ao6, co6, eo6⟩ := Kd.R_slice HO143.out; subst eo6))
    go_loopg [8, 22] k (fun kq v8 v22 w' => ∃ (x8_1 : Int) (x22_1 : Int), v8 = .int .i64 x8_1 ∧ v22 = .int .i64 x22_1 ∧ Aside0 (gauge_Loss.l0 kq x8_1 t140 (t140.length : Int) x22_1 = some (r1, r2)) ∧ Aside0 (kq ≤ k) ∧ Aside0 (Kd.R k25 25 w' w.heap.size (fun _ => True) (.slice Ao6 t140.length co6) t140) ∧ Aside0 (Below w.heap.size w w'))
    case atStart => exact ⟨(0), (0), (by first | rfl | (simp; done) | (simp [*]; done)), (by first | rfl | (simp; done) | (simp [*]; done)), H', ⟨Nat.le_refl _⟩, ⟨by (with_reducible repeat (first | apply Kd.R_alloc | apply Kd.R_drewN | apply Kd.R_drew)); exact HO143.out⟩, ⟨by repeat (first | (with_reducible first | exact HB.out | apply below_alloc | apply pw_below_drewN | apply below_drew1) | exact HB.out)⟩⟩
    case round =>
      clear H'
      try clear c1
      try clear p2
      try clear c3
      try clear c4
      try clear c4b0
      try clear c4b1
      obtain ⟨x8_1, x22_1, rfl, rfl, HA, HK1, HO_20, HB⟩ := hrel
      cases gk with
      | zero => exact absurd HA.out (by simp [gauge_Loss.l0])
      | succ k1 =>
        have H := HA.out
        clear HA
        simp only [gauge_Loss.l0] at H
        by_cases c7 : x22_1 < (t140.length : Int)
        · rw [if_pos c7] at H
          have c7b0 : decide (x22_1 < (t140.length : Int)) = true := decide_eq_true c7
          clear c7
          by_cases c8 : 0 ≤ x22_1
          · rw [if_pos c8] at H
            have c8b0 : decide (0 ≤ x22_1) = true := decide_eq_true c8
            clear c8
            by_cases c9 : x22_1 < (t140.length : Int)
            · rw [if_pos c9] at H
              have c9b0 : decide (x22_1 < (t140.length : Int)) = true := decide_eq_true c9
              clear c9
              obtain ⟨ji10, hji10⟩ : ∃ j_ : Int, (mx x8_1 ((rd_T25 t140 x22_1).f1)) = j_ := ⟨_, rfl⟩
              replace H : (gauge_Loss.l0 k1 ji10 t140 (t140.length : Int) (wrap64 (x22_1 + 1))) = some (r1, r2) := by first | (rw [hji10] at H; exact H) | (simp only [hji10] at H ⊢; exact H)
              have hji10_ : (if x8_1 < ((rd_T25 t140 x22_1).f1) then ((rd_T25 t140 x22_1).f1) else x8_1) = ji10 := hji10
              have H' := Aside0.mk H
              clear H
              have p144 : 0 ≤ (x22_1 : Int) := of_decide_eq_true (by first | (with_reducible assumption) | assumption)
              have q144 : x22_1 < (t140.length : Int) := of_decide_eq_true (by first | (with_reducible assumption) | assumption)
              obtain ⟨ad144, e144, hx144_0, hx144_1⟩ := at_T25 (Kd.R_reads' HO_20.out).2.2 x22_1 p144 q144
              cases e144
              replace p144 := eq_true p144
              replace q144 := eq_true q144
              go_wp2_with (first | ((with_reducible refine gate_dst (N := 10) rfl ?_); refine box_event ?hg (N := 10) ?hd (cs := #[.int .i64 0, .int .i64 0]) (t := 25) ?hr ?_; (case hd => rfl); (case hg => rfl); (case hr => first | (go_simp; done) | (go_simp; rfl)); intro gb145 hg w11 hbox hb; have n0_ := Aside0.mk (Kd.R_below (Kd.R_elderB (by (with_reducible repeat (first | apply Kd.R_alloc | apply Kd.R_drewN | apply Kd.R_drew)); exact HO_20.out) gb145 (Nat.le_of_eq hg.symm)) hb); have n1_ := Aside0.mk (below_step (by repeat (first | (with_reducible first | exact HB.out | apply below_alloc | apply pw_below_drewN | apply below_drew1) | exact HB.out)) hb); have n2_ := Aside0.mk (hbox); have n3_ := Aside0.mk ((by rw [hg]; exact (below_size (by repeat (first | (with_reducible first | exact HB.out | apply below_alloc | apply pw_below_drewN | apply below_drew1) | exact HB.out))) : w.heap.size ≤ gb145)); have n4_ := Aside0.mk ((by rw [hg]; exact (below_size (by repeat (first | (with_reducible first | exact HB.out | apply below_alloc | apply pw_below_drewN | apply below_drew1) | exact HB.out))) : w.heap.size ≤ gb145)); clear HO_20; clear HB; have HO_20 := n0_; have HB := n1_; have BK145 := n2_; have GW145 := n3_; have GE145 := n4_; clear n0_ n1_ n2_ n3_ n4_; clear hb hbox hg; have hcz12_0 : w11.cell? ⟨gb145, 0, none⟩ = some (.int .i64 0) := (blk_cell BK145.out 0).trans rfl; have hcz12_1 : w11.cell? ⟨gb145, 1, none⟩ = some (.int .i64 0) := (blk_cell BK145.out 1).trans rfl; have hfz12_0 := blk_frozen BK145.out 0; have hfz12_1 := blk_frozen BK145.out 1))
              go_roundg k1
              case measure => have := HK1.out; omega
              case rel => exact ⟨(ji10), (wrap64 (x22_1 + 1)), (by first | rfl | (simp; done) | (simp only [← hji10] <;> (first | rfl | simp)) | (simp [*]; done)), (by first | rfl | (simp; done) | (simp [*]; done)), H', ⟨by have := HK1.out; omega⟩, ⟨by (with_reducible repeat (first | apply Kd.R_alloc | apply Kd.R_drewN | apply Kd.R_drew)); exact Kd.R_mono (Kd.R_far (p := ⟨gb145, 1, none⟩) (Kd.R_far (p := ⟨gb145, 0, none⟩) (Kd.R_mono HO_20.out (fun k_ hk => (⟨hk, hk.2⟩ : _ ∧ k_ ≠ gb145))) (fun _ hk => hk.2) (.int .i64 ((rd_T25 t140 x22_1).f0))) (fun _ hk => hk.2) (.int .i64 ((rd_T25 t140 x22_1).f1))) (fun _ hk => trivial)⟩, ⟨by repeat (first | (with_reducible first | exact HB.out | apply below_alloc | apply pw_below_drewN | apply below_drew1 | refine below_set ?_ GE145.out) | exact HB.out)⟩⟩
            · rw [if_neg c9] at H
              exact absurd H (by simp)
          · rw [if_neg c8] at H
            exact absurd H (by simp)
        · rw [if_neg c7] at H
          have c7b0 : decide (x22_1 < (t140.length : Int)) = false := decide_eq_false c7
          clear c7
          simp only [Option.some.injEq, Prod.mk.injEq] at H
          obtain ⟨rfl, rfl⟩ := H
          go_wp2
          go_ret2
          exact ⟨by first | rfl | (simp [errW_none, errW_some] <;> rfl) | (simp [*, errW_none, errW_some] <;> rfl), by repeat (first | (with_reducible first | exact HB.out | apply below_alloc | apply pw_below_drewN | apply below_drew1) | exact HB.out)⟩
  · rw [if_neg c4] at H
    have c4b0 : (t141 == 0) = false := beq_eq_false_iff_ne.mpr c4
    have c4b1 : (t141 != 0) = true := bne_iff_ne.mpr c4
    simp only [Option.some.injEq, Prod.mk.injEq] at H
    obtain ⟨rfl, rfl⟩ := H
    go_enter Tryd.func32, Tryd.ntmps32
    go_wp2_with (first | ((with_reducible refine gate_callee (f := 83) rfl ?_); refine goesL_ (some 14) rfl rfl Tryd.func83 (by kernel_rfl) rfl #[.slice A0 l0.length c0, .slice A1 l1.length c1] rfl (by (try simp only [List.map_toArray, List.map_cons, List.map_nil]); first | done | rfl | (simp only [List.length_drop, List.length_take]; rfl)) ?_; (with_reducible refine (gauge_losses.calls k _ _ l0 _ _ l1 t140 t141 _ ?side1 ?side2 ?side3 ?side4 A3.out (by exact sig_below HS.out (by repeat (first | (with_reducible first | exact HB.out | apply below_alloc | apply pw_below_drewN | apply below_drew1 | refine below_set ?_ GE145.out) | exact HB.out)))).mono ?_); (case side1 => repeat (first | exact HR0.out | (with_reducible refine Kd.C_alloc ?_ _) | (with_reducible refine Kd.C_drewN ?_ _) | (with_reducible refine Kd.C_drew ?_))); (case side2 => exact HC0.out); (case side3 => repeat (first | exact HR1.out | (with_reducible refine Kd.C_alloc ?_ _) | (with_reducible refine Kd.C_drewN ?_ _) | (with_reducible refine Kd.C_drew ?_))); (case side4 => exact HC1.out); rintro e w13 ⟨v142, rfl, ho0, hb⟩; refine ⟨_, rfl, ?_⟩; have n0_ := Aside0.mk (Kd.R_lower ho0 (below_size (by repeat (first | (with_reducible first | exact HB.out | apply below_alloc | apply pw_below_drewN | apply below_drew1) | exact HB.out)))); have n1_ := Aside0.mk (below_step (by repeat (first | (with_reducible first | exact HB.out | apply below_alloc | apply pw_below_drewN | apply below_drew1) | exact HB.out)) hb); clear HB; have HO143 := n0_; have HB := n1_; clear n0_ n1_; (try clear hb); (try clear hb2); (try clear hk); (try clear hi); (try clear ho0)))
    go_ret2
    exact ⟨by first | rfl | (simp [errW_none, errW_some] <;> rfl) | (simp [*, errW_none, errW_some] <;> rfl), by repeat (first | (with_reducible first | exact HB.out | apply below_alloc | apply pw_below_drewN | apply below_drew1) | exact HB.out)⟩
def gauge_Safe.f (k : Nat) (l0 : List (S27)) (l1 : List (S104)) : Option (Int) := (gauge_losses.f k l0 l1).bind fun bt146 => (some bt146.2)
theorem gauge_Safe.mono : ∀ a0 a1 k, LeO (gauge_Safe.f k a0 a1) (gauge_Safe.f (k + 1) a0 a1) := by
  intro a0 a1 k
  unfold gauge_Safe.f
  repeat' first
      | (with_reducible exact gauge_losses.mono _ _ _)
      | (with_reducible exact LeO.refl _)
      | (with_reducible exact LeO.none _)
      | (with_reducible refine LeO.ite ?_ ?_)
      | (with_reducible refine LeO.bind ?_ (fun _ => ?_))
      | exact gauge_losses.mono _ _ _
      | exact LeO.none _
      | refine LeO.ite ?_ ?_
      | refine LeO.bind ?_ (fun _ => ?_)
set_option maxHeartbeats 8000000 in
set_option maxRecDepth 100000 in
theorem gauge_Safe.calls (k : Nat) (A0 : Option Addr) (c0 : Nat) (l0 : List (S27)) (A1 : Option Addr) (c1 : Nat) (l1 : List (S104)) (r : Int) (w : World) (hr0 : Kd.C k27 w A0 l0.length l0) (hc0 : l0.length ≤ c0) (hr1 : Kd.C k104 w A1 l1.length l1) (hc1 : l1.length ≤ c1) (h : gauge_Safe.f k l0 l1 = some r) (hS : SignsAt w) :
    Calls Tryd.prog 33 #[.slice A0 l0.length c0, .slice A1 l1.length c1] w fun e w' => e = .returned (.int .i64 r) ∧ Below w.heap.size w w' := by
  have HS := Aside0.mk hS
  clear hS
  have HR0 := Aside0.mk hr0
  have HC0 := Aside0.mk hc0
  clear hr0 hc0
  have HR1 := Aside0.mk hr1
  have HC1 := Aside0.mk hc1
  clear hr1 hc1
  have HB := Aside0.mk (Below.refl w.heap.size w)
  have H : ((gauge_losses.f k l0 l1).bind fun bt146 => (some bt146.2)) = some r := h
  clear h
  replace H := Option.bind_eq_some_iff.mp H
  obtain ⟨⟨t146, t147⟩, A30, H⟩ := H
  replace H : (some t147) = some r := H
  have A3 := Aside0.mk A30
  clear A30
  obtain rfl := Option.some.inj H
  go_enter Tryd.func33, Tryd.ntmps33
  go_wp2_with (first | ((with_reducible refine gate_callee (f := 83) rfl ?_); refine goesL_ (some 10) rfl rfl Tryd.func83 (by kernel_rfl) rfl #[.slice A0 l0.length c0, .slice A1 l1.length c1] rfl (by (try simp only [List.map_toArray, List.map_cons, List.map_nil]); first | done | rfl | (simp only [List.length_drop, List.length_take]; rfl)) ?_; (with_reducible refine (gauge_losses.calls k _ _ l0 _ _ l1 t146 t147 _ ?side1 ?side2 ?side3 ?side4 A3.out (by exact sig_below HS.out (by repeat (first | (with_reducible first | exact HB.out | apply below_alloc | apply pw_below_drewN | apply below_drew1 | fail) | exact HB.out)))).mono ?_); (case side1 => repeat (first | exact HR0.out | (with_reducible refine Kd.C_alloc ?_ _) | (with_reducible refine Kd.C_drewN ?_ _) | (with_reducible refine Kd.C_drew ?_))); (case side2 => exact HC0.out); (case side3 => repeat (first | exact HR1.out | (with_reducible refine Kd.C_alloc ?_ _) | (with_reducible refine Kd.C_drewN ?_ _) | (with_reducible refine Kd.C_drew ?_))); (case side4 => exact HC1.out); rintro e w4 ⟨v148, rfl, ho0, hb⟩; refine ⟨_, rfl, ?_⟩; have n0_ := Aside0.mk (Kd.R_lower ho0 (below_size (by repeat (first | (with_reducible first | exact HB.out | apply below_alloc | apply pw_below_drewN | apply below_drew1) | exact HB.out)))); have n1_ := Aside0.mk (below_step (by repeat (first | (with_reducible first | exact HB.out | apply below_alloc | apply pw_below_drewN | apply below_drew1) | exact HB.out)) hb); clear HB; have HO149 := n0_; have HB := n1_; clear n0_ n1_; (try clear hb); (try clear hb2); (try clear hk); (try clear hi); (try clear ho0)))
  go_ret
  exact ⟨by first | rfl | (simp [errW_none, errW_some] <;> rfl) | (simp [*, errW_none, errW_some] <;> rfl), by repeat (first | (with_reducible first | exact HB.out | apply below_alloc | apply pw_below_drewN | apply below_drew1) | exact HB.out)⟩
end Go.Proofs.YtjemaonejkepcaaDoor.G
namespace Go.Proofs.YtjemaonejkepcaaDoor.G
open Go.Proofs.YtjemaonejkepcaaDoor.B
open Go.RowKit Go.Proofs.YtjemaonejkepcaaDoorW.PrintWords Go.Proofs.YtjemaonejkepcaaDoorW.PrintLast Go.Proofs.YtjemaonejkepcaaDoorW.PrintMore
attribute [local go_sem] max2_int min2_int max_two min_two max_three min_three max_four min_four   -- for this text's walks alone
set_option linter.unusedVariables false
set_option linter.unusedSimpArgs false
/-- What Made's closure knows, and where it captured it. -/
class Dat86 where
  high : Bool
class Adr86 where
  gh : Nat
def CapAt86 [q : Dat86] [a : Adr86] (w : World) : Prop := w.heap[a.gh]? = some (.cells #[.bool q.high] 4 (0, 0))
theorem cap86_below [Dat86] [Adr86] {w w' : World} (h : CapAt86 w) (hb : Below w.heap.size w w') : CapAt86 w' := (hb.block _ (blk_lt h)).trans h
def gauge_Made_1.f [q : Dat86] (_a0 : Int) (x y : Int) (hole : Bool) (lo hi : Int) : Option (Int × Int × Bool × Int × Int) :=
  (gauge_limits.f 2 lo hi).bind fun t => if t = 0 then (if q.high = true then some (x, y, hole, hi, 0) else some (x, y, hole, lo, 0)) else some (0, 0, false, 0, t)
set_option maxHeartbeats 4000000 in
set_option maxRecDepth 100000 in
theorem gauge_Made_1.calls [q : Dat86] [a : Adr86] (a0 : Int) (x y : Int) (hole : Bool) (lo hi : Int) (r1 r2 : Int) (r3 : Bool) (r4 r5 : Int) (w : World) (h : gauge_Made_1.f a0 x y hole lo hi = some (r1, r2, r3, r4, r5)) (hS : CapAt86 w) :
    Calls Tryd.prog 86 #[.int .i64 a0, .agg #[.int .i64 x, .int .i64 y, .bool hole, .int .i64 lo, .int .i64 hi], .pointer (some ⟨a.gh, 0, none⟩)] w fun e w' => e = .returned (.tuple #[.agg #[.int .i64 r1, .int .i64 r2, .bool r3, .int .i64 r4], .int .i64 r5]) ∧ Below w.heap.size w w' := by
  have hu104 := Tryd.underlying104
  have hu56 := Tryd.underlying56
  have hu25 := Tryd.underlying25
  unfold gauge_Made_1.f at h
  obtain ⟨t, ht, h⟩ := Option.bind_eq_some_iff.mp h
  have A1 := Aside0.mk ht
  clear ht
  have HS := Aside0.mk hS
  clear hS
  by_cases ht : t = 0
  · subst ht
    rw [if_pos rfl] at h
    cases hq : q.high with
    | false =>
      rw [hq] at h
      simp at h
      obtain ⟨rfl, rfl, rfl, rfl, rfl⟩ := h
      go_enter Tryd.func86, Tryd.ntmps86
      go_wp2_with fail
      refine (gauge_limits.calls 2 lo hi 0 _ A1.out).mono ?_
      rintro e w1 ⟨rfl, hb⟩
      have hbw := Aside0.mk (below_step (below_alloc (below_alloc (Below.refl w.heap.size w) _) _) hb)
      have b1 : w1.heap[w.heap.size]? = some (.cells #[.int .i64 x, .int .i64 y, .bool hole, .int .i64 lo, .int .i64 hi] 104 (0, 0)) := blk_below (blk_alloc (blk_new w _) _) hb
      have b2 : w1.heap[w.heap.size + 1]? = some (.cells #[.int .i64 0, .int .i64 0, .bool false, .int .i64 0] 56 (0, 0)) := blk_below (by simpa using blk_new (w.alloc (.cells #[.int .i64 x, .int .i64 y, .bool hole, .int .i64 lo, .int .i64 hi] 104)) (.cells #[.int .i64 0, .int .i64 0, .bool false, .int .i64 0] 56)) hb
      have c0 : w1.cell? ⟨w.heap.size, 0, none⟩ = some (.int .i64 x) := (blk_cell b1 0).trans rfl
      have c1 : w1.cell? ⟨w.heap.size, 1, none⟩ = some (.int .i64 y) := (blk_cell b1 1).trans rfl
      have c2 : w1.cell? ⟨w.heap.size, 2, none⟩ = some (.bool hole) := (blk_cell b1 2).trans rfl
      have c3 : w1.cell? ⟨w.heap.size, 3, none⟩ = some (.int .i64 lo) := (blk_cell b1 3).trans rfl
      have c4 : w1.cell? ⟨w.heap.size, 4, none⟩ = some (.int .i64 hi) := (blk_cell b1 4).trans rfl
      have d0 : w1.cell? ⟨w.heap.size + 1, 0, none⟩ = some (.int .i64 0) := (blk_cell b2 0).trans rfl
      have df0 := blk_frozen b2 0
      have d1 : w1.cell? ⟨w.heap.size + 1, 1, none⟩ = some (.int .i64 0) := (blk_cell b2 1).trans rfl
      have df1 := blk_frozen b2 1
      have d2 : w1.cell? ⟨w.heap.size + 1, 2, none⟩ = some (.bool false) := (blk_cell b2 2).trans rfl
      have df2 := blk_frozen b2 2
      have d3 : w1.cell? ⟨w.heap.size + 1, 3, none⟩ = some (.int .i64 0) := (blk_cell b2 3).trans rfl
      have df3 := blk_frozen b2 3
      have hx : w1.cell? ⟨a.gh, 0, none⟩ = some (.bool false) := by rw [← hq]; exact (blk_cell (cap86_below HS.out hbw.out) 0).trans rfl
      clear b1 b2 hb hq A1 HS
      go_wp2_with fail
      refine bodyPost_ret (v := .tuple #[.agg #[.int .i64 x, .int .i64 y, .bool hole, .int .i64 lo], .int .i64 0]) ?_ rfl ⟨rfl, below_set (below_set (below_set (below_set hbw.out (by omega)) (by omega)) (by omega)) (by omega)⟩
      simp [results, Tryd.results86, go_sem, d0, d1, d2, d3]
    | true =>
      rw [hq] at h
      simp at h
      obtain ⟨rfl, rfl, rfl, rfl, rfl⟩ := h
      go_enter Tryd.func86, Tryd.ntmps86
      go_wp2_with fail
      refine (gauge_limits.calls 2 lo hi 0 _ A1.out).mono ?_
      rintro e w1 ⟨rfl, hb⟩
      have hbw := Aside0.mk (below_step (below_alloc (below_alloc (Below.refl w.heap.size w) _) _) hb)
      have b1 : w1.heap[w.heap.size]? = some (.cells #[.int .i64 x, .int .i64 y, .bool hole, .int .i64 lo, .int .i64 hi] 104 (0, 0)) := blk_below (blk_alloc (blk_new w _) _) hb
      have b2 : w1.heap[w.heap.size + 1]? = some (.cells #[.int .i64 0, .int .i64 0, .bool false, .int .i64 0] 56 (0, 0)) := blk_below (by simpa using blk_new (w.alloc (.cells #[.int .i64 x, .int .i64 y, .bool hole, .int .i64 lo, .int .i64 hi] 104)) (.cells #[.int .i64 0, .int .i64 0, .bool false, .int .i64 0] 56)) hb
      have c0 : w1.cell? ⟨w.heap.size, 0, none⟩ = some (.int .i64 x) := (blk_cell b1 0).trans rfl
      have c1 : w1.cell? ⟨w.heap.size, 1, none⟩ = some (.int .i64 y) := (blk_cell b1 1).trans rfl
      have c2 : w1.cell? ⟨w.heap.size, 2, none⟩ = some (.bool hole) := (blk_cell b1 2).trans rfl
      have c3 : w1.cell? ⟨w.heap.size, 3, none⟩ = some (.int .i64 lo) := (blk_cell b1 3).trans rfl
      have c4 : w1.cell? ⟨w.heap.size, 4, none⟩ = some (.int .i64 hi) := (blk_cell b1 4).trans rfl
      have d0 : w1.cell? ⟨w.heap.size + 1, 0, none⟩ = some (.int .i64 0) := (blk_cell b2 0).trans rfl
      have df0 := blk_frozen b2 0
      have d1 : w1.cell? ⟨w.heap.size + 1, 1, none⟩ = some (.int .i64 0) := (blk_cell b2 1).trans rfl
      have df1 := blk_frozen b2 1
      have d2 : w1.cell? ⟨w.heap.size + 1, 2, none⟩ = some (.bool false) := (blk_cell b2 2).trans rfl
      have df2 := blk_frozen b2 2
      have d3 : w1.cell? ⟨w.heap.size + 1, 3, none⟩ = some (.int .i64 0) := (blk_cell b2 3).trans rfl
      have df3 := blk_frozen b2 3
      have hx : w1.cell? ⟨a.gh, 0, none⟩ = some (.bool true) := by rw [← hq]; exact (blk_cell (cap86_below HS.out hbw.out) 0).trans rfl
      clear b1 b2 hb hq A1 HS
      go_wp2_with fail
      refine bodyPost_ret (v := .tuple #[.agg #[.int .i64 x, .int .i64 y, .bool hole, .int .i64 hi], .int .i64 0]) ?_ rfl ⟨rfl, below_set (below_set (below_set (below_set hbw.out (by omega)) (by omega)) (by omega)) (by omega)⟩
      simp [results, Tryd.results86, go_sem, d0, d1, d2, d3]
  · rw [if_neg ht] at h
    simp at h
    obtain ⟨rfl, rfl, rfl, rfl, rfl⟩ := h
    go_enter Tryd.func86, Tryd.ntmps86
    go_wp2_with fail
    refine (gauge_limits.calls 2 lo hi t _ A1.out).mono ?_
    rintro e w1 ⟨rfl, hb⟩
    have hbw := Aside0.mk (below_step (below_alloc (below_alloc (Below.refl w.heap.size w) _) _) hb)
    have b1 : w1.heap[w.heap.size]? = some (.cells #[.int .i64 x, .int .i64 y, .bool hole, .int .i64 lo, .int .i64 hi] 104 (0, 0)) := blk_below (blk_alloc (blk_new w _) _) hb
    have b2 : w1.heap[w.heap.size + 1]? = some (.cells #[.int .i64 0, .int .i64 0, .bool false, .int .i64 0] 56 (0, 0)) := blk_below (by simpa using blk_new (w.alloc (.cells #[.int .i64 x, .int .i64 y, .bool hole, .int .i64 lo, .int .i64 hi] 104)) (.cells #[.int .i64 0, .int .i64 0, .bool false, .int .i64 0] 56)) hb
    have c0 : w1.cell? ⟨w.heap.size, 0, none⟩ = some (.int .i64 x) := (blk_cell b1 0).trans rfl
    have c1 : w1.cell? ⟨w.heap.size, 1, none⟩ = some (.int .i64 y) := (blk_cell b1 1).trans rfl
    have c2 : w1.cell? ⟨w.heap.size, 2, none⟩ = some (.bool hole) := (blk_cell b1 2).trans rfl
    have c3 : w1.cell? ⟨w.heap.size, 3, none⟩ = some (.int .i64 lo) := (blk_cell b1 3).trans rfl
    have c4 : w1.cell? ⟨w.heap.size, 4, none⟩ = some (.int .i64 hi) := (blk_cell b1 4).trans rfl
    have d0 : w1.cell? ⟨w.heap.size + 1, 0, none⟩ = some (.int .i64 0) := (blk_cell b2 0).trans rfl
    have df0 := blk_frozen b2 0
    have d1 : w1.cell? ⟨w.heap.size + 1, 1, none⟩ = some (.int .i64 0) := (blk_cell b2 1).trans rfl
    have df1 := blk_frozen b2 1
    have d2 : w1.cell? ⟨w.heap.size + 1, 2, none⟩ = some (.bool false) := (blk_cell b2 2).trans rfl
    have df2 := blk_frozen b2 2
    have d3 : w1.cell? ⟨w.heap.size + 1, 3, none⟩ = some (.int .i64 0) := (blk_cell b2 3).trans rfl
    have df3 := blk_frozen b2 3
    have tb : (t != 0) = true := bne_iff_ne.mpr ht
    clear b1 b2 hb A1 HS ht
    go_wp2_with fail
    refine bodyPost_ret (v := .tuple #[.agg #[.int .i64 0, .int .i64 0, .bool false, .int .i64 0], .int .i64 t]) ?_ rfl ⟨rfl, below_set (below_set (below_set (below_set hbw.out (by omega)) (by omega)) (by omega)) (by omega)⟩
    simp [results, Tryd.results86, go_sem, d0, d1, d2, d3]
end Go.Proofs.YtjemaonejkepcaaDoor.G
namespace Go.Proofs.YtjemaonejkepcaaDoor.G
open Go.Proofs.YtjemaonejkepcaaDoor.B
open Go.RowKit Go.Proofs.YtjemaonejkepcaaDoorW.PrintWords Go.Proofs.YtjemaonejkepcaaDoorW.PrintLast Go.Proofs.YtjemaonejkepcaaDoorW.PrintMore
attribute [local go_sem] max2_int min2_int max_two min_two max_three min_three max_four min_four   -- for this text's walks alone
set_option linter.unusedVariables false
set_option linter.unusedSimpArgs false
section
variable [q86 : Dat86]
def gauge_Tool_85.l0 : Nat → List (S56) → List (S104) → Int → Int → Option ((List (S56)) × Int)
  | 0, _, _, _, _ => none
  | k + 1, x6, x11, x12, x13 => if x13 < x12 then (if 0 ≤ x13 then (if x13 < (x11.length : Int) then ((gauge_Made_1.f x13 ((rd_T104 x11 x13).f0.f0) ((rd_T104 x11 x13).f0.f1) ((rd_T104 x11 x13).f1) ((rd_T104 x11 x13).f2.f0) ((rd_T104 x11 x13).f2.f1)).bind fun bt152 => (if bt152.2.2.2.2 = 0 then (if x6.length < 4398046511104 then (gauge_Tool_85.l0 k (x6 ++ [(⟨(⟨bt152.1, bt152.2.1⟩ : S23), bt152.2.2.1, bt152.2.2.2.1⟩ : S56)]) x11 x12 (wrap64 (x13 + 1))) else (none)) else (some (([] : List (S56)), bt152.2.2.2.2)))) else (none)) else (none)) else (some (x6, 0))
def gauge_Tool_85.f (k : Nat) (l0 : List (S104)) : Option ((List (S56)) × Int) := gauge_Tool_85.l0 k ([] : List (S56)) l0 (l0.length : Int) 0
theorem gauge_Tool_85.mono_l : ∀ k, (∀ y0 y1 y2 y3, LeO (gauge_Tool_85.l0 k y0 y1 y2 y3) (gauge_Tool_85.l0 (k + 1) y0 y1 y2 y3))
  | 0 => fun _ _ _ _ r h => by simp [gauge_Tool_85.l0] at h
  | k + 1 => by
    have ih0 := gauge_Tool_85.mono_l k
    · intro y0 y1 y2 y3
      unfold gauge_Tool_85.l0
      repeat' first
      | (with_reducible exact ih0 _ _ _ _)
      | (with_reducible exact LeO.refl _)
      | (with_reducible exact LeO.none _)
      | (with_reducible refine LeO.ite ?_ ?_)
      | (with_reducible refine LeO.bind ?_ (fun _ => ?_))
      | exact ih0 _ _ _ _
      | exact LeO.none _
      | refine LeO.ite ?_ ?_
      | refine LeO.bind ?_ (fun _ => ?_)
theorem gauge_Tool_85.mono : ∀ a0 k, LeO (gauge_Tool_85.f k a0) (gauge_Tool_85.f (k + 1) a0) := by
  intro a0 k
  have ih0 := gauge_Tool_85.mono_l k
  unfold gauge_Tool_85.f
  repeat' first
      | (with_reducible exact ih0 _ _ _ _)
      | (with_reducible exact LeO.refl _)
      | (with_reducible exact LeO.none _)
      | (with_reducible refine LeO.ite ?_ ?_)
      | (with_reducible refine LeO.bind ?_ (fun _ => ?_))
      | exact ih0 _ _ _ _
      | exact LeO.none _
      | refine LeO.ite ?_ ?_
      | refine LeO.bind ?_ (fun _ => ?_)
set_option maxHeartbeats 8000000 in
set_option maxRecDepth 100000 in
theorem gauge_Tool_85.calls [Adr86] (k : Nat) (A0 : Option Addr) (c0 : Nat) (l0 : List (S104)) (r1 : List (S56)) (r2 : Int) (w : World) (hr0 : Kd.C k104 w A0 l0.length l0) (hc0 : l0.length ≤ c0) (h : gauge_Tool_85.f k l0 = some (r1, r2)) (hS : CapAt86 w) :
    Calls Tryd.prog 85 #[.slice A0 l0.length c0, .func (.func 86) #[] #[.pointer (some ⟨Adr86.gh, 0, none⟩)]] w fun e w' => ∃ v0_ : Value, e = .returned (.tuple #[v0_, .int .i64 r2]) ∧ Kd.R k56 56 w' w.heap.size (fun _ => True) v0_ r1 ∧ Below w.heap.size w w' := by
  have HS := Aside0.mk hS
  clear hS
  have hu104 := Tryd.underlying104
  have hu56 := Tryd.underlying56
  have HR0 := Aside0.mk hr0
  have HC0 := Aside0.mk hc0
  clear hr0 hc0
  have HB := Aside0.mk (Below.refl w.heap.size w)
  have H : (gauge_Tool_85.l0 k ([] : List (S56)) l0 (l0.length : Int) 0) = some (r1, r2) := h
  clear h
  have H' := Aside0.mk H
  clear H
  go_enter Tryd.func85, Tryd.ntmps85
  go_wp2
  go_loopg [6, 13] k (fun kq v6 v13 w' => ∃ (x6_1 : List (S56)) (x13_1 : Int), v13 = .int .i64 x13_1 ∧ Aside0 (gauge_Tool_85.l0 kq x6_1 l0 (l0.length : Int) x13_1 = some (r1, r2)) ∧ Aside0 (kq ≤ k) ∧ Aside0 (Kd.R k56 56 w' w.heap.size (fun _ => True) v6 x6_1) ∧ Aside0 (Below w.heap.size w w'))
  case atStart => exact ⟨(([] : List (S56))), (0), (by first | rfl | (simp; done) | (simp [*]; done)), H', ⟨Nat.le_refl _⟩, ⟨by first | exact Kd.R_nil _ _ _ _ _ | exact Kd.N_nil _ _ _ _ _ | exact Kd.V_nil _ _ _ _ _ | exact Kd.Q_nil _ _ _ _ _ | exact Kd.S_nil _ _ _ _ _⟩, ⟨by repeat (first | (with_reducible first | exact HB.out | apply below_alloc | apply pw_below_drewN | apply below_drew1) | exact HB.out)⟩⟩
  case round =>
    clear H'
    obtain ⟨x6_1, x13_1, rfl, HA, HK1, HO_6, HB⟩ := hrel
    cases gk with
    | zero => exact absurd HA.out (by simp [gauge_Tool_85.l0])
    | succ k1 =>
      have H := HA.out
      clear HA
      simp only [gauge_Tool_85.l0] at H
      by_cases c2 : x13_1 < (l0.length : Int)
      · rw [if_pos c2] at H
        have c2b0 : decide (x13_1 < (l0.length : Int)) = true := decide_eq_true c2
        clear c2
        by_cases c3 : 0 ≤ x13_1
        · rw [if_pos c3] at H
          have c3b0 : decide (0 ≤ x13_1) = true := decide_eq_true c3
          clear c3
          by_cases c4 : x13_1 < (l0.length : Int)
          · rw [if_pos c4] at H
            have c4b0 : decide (x13_1 < (l0.length : Int)) = true := decide_eq_true c4
            clear c4
            replace H := Option.bind_eq_some_iff.mp H
            obtain ⟨⟨t152, t153, t154, t155, t156⟩, A50, H⟩ := H
            replace H : (if t156 = 0 then (if x6_1.length < 4398046511104 then (gauge_Tool_85.l0 k1 (x6_1 ++ [(⟨(⟨t152, t153⟩ : S23), t154, t155⟩ : S56)]) l0 (l0.length : Int) (wrap64 (x13_1 + 1))) else (none)) else (some (([] : List (S56)), t156))) = some (r1, r2) := H
            have A5 := Aside0.mk A50
            clear A50
            by_cases c6 : t156 = 0
            · rw [if_pos c6] at H
              have c6b0 : (t156 == 0) = true := beq_iff_eq.mpr c6
              have c6b1 : (t156 != 0) = false := bne_eq_false_iff_eq.mpr c6
              clear c6
              by_cases c7 : x6_1.length < 4398046511104
              · rw [if_pos c7] at H
                have LMc7 := Aside0.mk c7
                clear c7
                obtain ⟨y158, hy158⟩ : ∃ y_ : List (S56), y_ = (x6_1 ++ [(⟨(⟨t152, t153⟩ : S23), t154, t155⟩ : S56)]) := ⟨_, rfl⟩
                replace H : (gauge_Tool_85.l0 k1 y158 l0 (l0.length : Int) (wrap64 (x13_1 + 1))) = some (r1, r2) := by first | (rw [hy158]; with_reducible exact H) | (have H2_ := (Option.bind_some _ _).symm.trans H; rw [hy158]; with_reducible exact H2_) | (have H2_ := (Option.bind_some _ _).symm.trans H; with_reducible exact H2_) | with_reducible exact H | (rw [hy158]; exact H) | exact H
                have Ny158 := Aside0.mk hy158
                clear hy158
                have H' := Aside0.mk H
                clear H
                have p150 : 0 ≤ (x13_1 : Int) := of_decide_eq_true (by first | (with_reducible assumption) | assumption)
                have q150 : x13_1 < (l0.length : Int) := of_decide_eq_true (by first | (with_reducible assumption) | assumption)
                obtain ⟨ad150, e150, hx150_0, hx150_1, hx150_2, hx150_3, hx150_4⟩ := at_T104 HR0.out x13_1 p150 q150
                cases e150
                replace hx150_0 := (HB.out.cell (World.block_lt_of_cell? w _ hx150_0)).trans hx150_0
                replace hx150_1 := (HB.out.cell (World.block_lt_of_cell? w _ hx150_1)).trans hx150_1
                replace hx150_2 := (HB.out.cell (World.block_lt_of_cell? w _ hx150_2)).trans hx150_2
                replace hx150_3 := (HB.out.cell (World.block_lt_of_cell? w _ hx150_3)).trans hx150_3
                replace hx150_4 := (HB.out.cell (World.block_lt_of_cell? w _ hx150_4)).trans hx150_4
                replace p150 := eq_true p150
                replace q150 := eq_true q150
                go_wp2_with (first | ((with_reducible refine gate_dst (N := 8) rfl ?_); refine box_event ?hg (N := 8) ?hd (cs := #[.int .i64 0, .int .i64 0, .bool false, .int .i64 0, .int .i64 0]) (t := 104) ?hr ?_; (case hd => rfl); (case hg => rfl); (case hr => first | (go_simp; done) | (go_simp; rfl)); intro gb151 hg w8 hbox hb; have n0_ := Aside0.mk (Kd.R_below (by (with_reducible repeat (first | apply Kd.R_alloc | apply Kd.R_drewN | apply Kd.R_drew)); exact HO_6.out) hb); have n1_ := Aside0.mk (below_step (by repeat (first | (with_reducible first | exact HB.out | apply below_alloc | apply pw_below_drewN | apply below_drew1) | exact HB.out)) hb); have n2_ := Aside0.mk (hbox); have n3_ := Aside0.mk ((by rw [hg]; exact (below_size (by repeat (first | (with_reducible first | exact HB.out | apply below_alloc | apply pw_below_drewN | apply below_drew1) | exact HB.out))) : w.heap.size ≤ gb151)); have n4_ := Aside0.mk ((by rw [hg]; exact (below_size (by repeat (first | (with_reducible first | exact HB.out | apply below_alloc | apply pw_below_drewN | apply below_drew1) | exact HB.out))) : w.heap.size ≤ gb151)); clear HO_6; clear HB; have HO_6 := n0_; have HB := n1_; have BK151 := n2_; have GW151 := n3_; have GE151 := n4_; clear n0_ n1_ n2_ n3_ n4_; clear hb hbox hg; have hcz9_0 : w8.cell? ⟨gb151, 0, none⟩ = some (.int .i64 0) := (blk_cell BK151.out 0).trans rfl; have hcz9_1 : w8.cell? ⟨gb151, 1, none⟩ = some (.int .i64 0) := (blk_cell BK151.out 1).trans rfl; have hcz9_2 : w8.cell? ⟨gb151, 2, none⟩ = some (.bool false) := (blk_cell BK151.out 2).trans rfl; have hcz9_3 : w8.cell? ⟨gb151, 3, none⟩ = some (.int .i64 0) := (blk_cell BK151.out 3).trans rfl; have hcz9_4 : w8.cell? ⟨gb151, 4, none⟩ = some (.int .i64 0) := (blk_cell BK151.out 4).trans rfl; have hfz9_0 := blk_frozen BK151.out 0; have hfz9_1 := blk_frozen BK151.out 1; have hfz9_2 := blk_frozen BK151.out 2; have hfz9_3 := blk_frozen BK151.out 3; have hfz9_4 := blk_frozen BK151.out 4) | (go_at_call 86; (with_reducible refine (gauge_Made_1.calls x13_1 ((rd_T104 l0 x13_1).f0.f0) ((rd_T104 l0 x13_1).f0.f1) ((rd_T104 l0 x13_1).f1) ((rd_T104 l0 x13_1).f2.f0) ((rd_T104 l0 x13_1).f2.f1) t152 t153 t154 t155 t156 _ A5.out (by exact cap86_below HS.out (by repeat (first | (with_reducible first | exact HB.out | apply below_alloc | apply pw_below_drewN | apply below_drew1 | refine below_set ?_ GE151.out | refine below_set ?_ GE157.out) | exact HB.out)))).mono ?_); rintro e w10 ⟨rfl, hb⟩; skip; have n0_ := Aside0.mk (Kd.R_below (by (with_reducible repeat (first | apply Kd.R_alloc | apply Kd.R_drewN | apply Kd.R_drew)); exact (Kd.R_mono (Kd.R_far (p := ⟨gb151, 4, none⟩) (Kd.R_far (p := ⟨gb151, 3, none⟩) (Kd.R_far (p := ⟨gb151, 2, none⟩) (Kd.R_far (p := ⟨gb151, 1, none⟩) (Kd.R_far (p := ⟨gb151, 0, none⟩) (Kd.R_types HO_6.out BK151.out (by decide)) (fun _ hk => hk.2) (.int .i64 ((rd_T104 l0 x13_1).f0.f0))) (fun _ hk => hk.2) (.int .i64 ((rd_T104 l0 x13_1).f0.f1))) (fun _ hk => hk.2) (.bool ((rd_T104 l0 x13_1).f1))) (fun _ hk => hk.2) (.int .i64 ((rd_T104 l0 x13_1).f2.f0))) (fun _ hk => hk.2) (.int .i64 ((rd_T104 l0 x13_1).f2.f1))) (fun _ h_ => h_.1))) hb); have n1_ := Aside0.mk (blk_below (g := gb151) (o := .cells #[.int .i64 ((rd_T104 l0 x13_1).f0.f0), .int .i64 ((rd_T104 l0 x13_1).f0.f1), .bool ((rd_T104 l0 x13_1).f1), .int .i64 ((rd_T104 l0 x13_1).f2.f0), .int .i64 ((rd_T104 l0 x13_1).f2.f1)] 104 (0, 0)) (by (with_reducible repeat (first | refine blk_drewN ?_ _ | refine blk_drew ?_ | refine blk_alloc ?_ _)); refine blk_put (cs := #[.int .i64 ((rd_T104 l0 x13_1).f0.f0), .int .i64 ((rd_T104 l0 x13_1).f0.f1), .bool ((rd_T104 l0 x13_1).f1), .int .i64 ((rd_T104 l0 x13_1).f2.f0), .int .i64 0]) ?_ 4 _ rfl; (with_reducible repeat (first | refine blk_drewN ?_ _ | refine blk_drew ?_ | refine blk_alloc ?_ _)); refine blk_put (cs := #[.int .i64 ((rd_T104 l0 x13_1).f0.f0), .int .i64 ((rd_T104 l0 x13_1).f0.f1), .bool ((rd_T104 l0 x13_1).f1), .int .i64 0, .int .i64 0]) ?_ 3 _ rfl; (with_reducible repeat (first | refine blk_drewN ?_ _ | refine blk_drew ?_ | refine blk_alloc ?_ _)); refine blk_put (cs := #[.int .i64 ((rd_T104 l0 x13_1).f0.f0), .int .i64 ((rd_T104 l0 x13_1).f0.f1), .bool false, .int .i64 0, .int .i64 0]) ?_ 2 _ rfl; (with_reducible repeat (first | refine blk_drewN ?_ _ | refine blk_drew ?_ | refine blk_alloc ?_ _)); refine blk_put (cs := #[.int .i64 ((rd_T104 l0 x13_1).f0.f0), .int .i64 0, .bool false, .int .i64 0, .int .i64 0]) ?_ 1 _ rfl; (with_reducible repeat (first | refine blk_drewN ?_ _ | refine blk_drew ?_ | refine blk_alloc ?_ _)); refine blk_put (cs := #[.int .i64 0, .int .i64 0, .bool false, .int .i64 0, .int .i64 0]) ?_ 0 _ rfl; (with_reducible repeat (first | refine blk_drewN ?_ _ | refine blk_drew ?_ | refine blk_alloc ?_ _)); exact BK151.out) hb); have n2_ := Aside0.mk (below_step (by repeat (first | (with_reducible first | exact HB.out | apply below_alloc | apply pw_below_drewN | apply below_drew1 | refine below_set ?_ GE151.out) | exact HB.out)) hb); clear HO_6; clear BK151; clear HB; have HO_6 := n0_; have BK151 := n1_; have HB := n2_; clear n0_ n1_ n2_; (try clear hb); (try clear hb2); (try clear hk); (try clear hi)) | ((with_reducible refine gate_dst (N := 9) rfl ?_); refine box_event ?hg (N := 9) ?hd (cs := #[.int .i64 0, .int .i64 0, .bool false, .int .i64 0]) (t := 56) ?hr ?_; (case hd => rfl); (case hg => rfl); (case hr => first | (go_simp; done) | (go_simp; rfl)); intro gb157 hg w11 hbox hb; have n0_ := Aside0.mk (Kd.R_below (Kd.R_elderB (by (with_reducible repeat (first | apply Kd.R_alloc | apply Kd.R_drewN | apply Kd.R_drew)); exact HO_6.out) gb157 (Nat.le_of_eq hg.symm)) hb); have n1_ := Aside0.mk (blk_below (g := gb151) (o := .cells #[.int .i64 ((rd_T104 l0 x13_1).f0.f0), .int .i64 ((rd_T104 l0 x13_1).f0.f1), .bool ((rd_T104 l0 x13_1).f1), .int .i64 ((rd_T104 l0 x13_1).f2.f0), .int .i64 ((rd_T104 l0 x13_1).f2.f1)] 104 (0, 0)) (by (with_reducible repeat (first | refine blk_drewN ?_ _ | refine blk_drew ?_ | refine blk_alloc ?_ _)); exact BK151.out) hb); have n2_ := Aside0.mk (below_step (by repeat (first | (with_reducible first | exact HB.out | apply below_alloc | apply pw_below_drewN | apply below_drew1 | refine below_set ?_ GE151.out) | exact HB.out)) hb); have n3_ := Aside0.mk (hbox); have n4_ := Aside0.mk ((by rw [hg]; exact (below_size (by repeat (first | (with_reducible first | exact HB.out | apply below_alloc | apply pw_below_drewN | apply below_drew1 | refine below_set ?_ GE151.out) | exact HB.out))) : w.heap.size ≤ gb157)); have n5_ := Aside0.mk ((by rw [hg]; exact (below_size (by repeat (first | (with_reducible first | exact HB.out | apply below_alloc | apply pw_below_drewN | apply below_drew1 | refine below_set ?_ GE151.out) | exact HB.out))) : w.heap.size ≤ gb157)); have n6_ := Aside0.mk ((by rw [hg]; exact Nat.ne_of_lt (blk_lt (g := gb151) (o := .cells #[.int .i64 ((rd_T104 l0 x13_1).f0.f0), .int .i64 ((rd_T104 l0 x13_1).f0.f1), .bool ((rd_T104 l0 x13_1).f1), .int .i64 ((rd_T104 l0 x13_1).f2.f0), .int .i64 ((rd_T104 l0 x13_1).f2.f1)] 104 (0, 0)) (by (with_reducible repeat (first | refine blk_drewN ?_ _ | refine blk_drew ?_ | refine blk_alloc ?_ _)); exact BK151.out)) : gb151 ≠ gb157)); have n7_ := Aside0.mk ((by rw [hg]; exact Nat.ne_of_gt (blk_lt (g := gb151) (o := .cells #[.int .i64 ((rd_T104 l0 x13_1).f0.f0), .int .i64 ((rd_T104 l0 x13_1).f0.f1), .bool ((rd_T104 l0 x13_1).f1), .int .i64 ((rd_T104 l0 x13_1).f2.f0), .int .i64 ((rd_T104 l0 x13_1).f2.f1)] 104 (0, 0)) (by (with_reducible repeat (first | refine blk_drewN ?_ _ | refine blk_drew ?_ | refine blk_alloc ?_ _)); exact BK151.out)) : gb157 ≠ gb151)); clear HO_6; clear BK151; clear HB; have HO_6 := n0_; have BK151 := n1_; have HB := n2_; have BK157 := n3_; have GW157 := n4_; have GE157 := n5_; have NB151_157 := n6_; have NB157_151 := n7_; clear n0_ n1_ n2_ n3_ n4_ n5_ n6_ n7_; clear hb hbox hg; have hnb12 := NB157_151.out; have hnc12 := NB151_157.out; have hcz13_0 : w11.cell? ⟨gb157, 0, none⟩ = some (.int .i64 0) := (blk_cell BK157.out 0).trans rfl; have hcz13_1 : w11.cell? ⟨gb157, 1, none⟩ = some (.int .i64 0) := (blk_cell BK157.out 1).trans rfl; have hcz13_2 : w11.cell? ⟨gb157, 2, none⟩ = some (.bool false) := (blk_cell BK157.out 2).trans rfl; have hcz13_3 : w11.cell? ⟨gb157, 3, none⟩ = some (.int .i64 0) := (blk_cell BK157.out 3).trans rfl; have hfz13_0 := blk_frozen BK157.out 0; have hfz13_1 := blk_frozen BK157.out 1; have hfz13_2 := blk_frozen BK157.out 2; have hfz13_3 := blk_frozen BK157.out 3) | ((with_reducible refine gate_builtin (b := .append) (xs := #[.tmp 28, .tmp 30]) rfl ?_); at_builtin; refine Kd.R_append k56 (w0 := w) w.heap.size rfl (.tmp 28) (.tmp 30) 52 56 (.agg #[(.int .i64 0), (.int .i64 0), (.bool false), (.int .i64 0)]) 32 rfl Tryd.underlying52 info56 rfl (by decide) (by omega) u6 x6_1 (⟨(⟨t152, t153⟩ : S23), t154, t155⟩ : S56) [.int .i64 t152, .int .i64 t153, .bool t154, .int .i64 t155] (fun k_ => k_ ≠ gb157) (fun _ => False) rfl (by first | (go_simp; done) | (go_simp; rfl)) ?aP (fun _ hk => hk.elim) ?aF ?aO ?aB ?aS ?aL ?_; (case aP => exact k56_mkM _ _ _ (⟨(⟨t152, t153⟩ : S23), t154, t155⟩ : S56)); (case aB => exact (by repeat (first | (with_reducible first | exact HB.out | apply below_alloc | apply pw_below_drewN | apply below_drew1 | refine below_set ?_ GE151.out | refine below_set ?_ GE157.out) | exact HB.out))); (case aF => exact (fun k_ hk => Kd.freshB (g := gb157) (o := .cells #[.int .i64 t152, .int .i64 t153, .bool t154, .int .i64 t155] 56 (0, 0)) (by (with_reducible repeat (first | refine blk_drewN ?_ _ | refine blk_drew ?_ | refine blk_alloc ?_ _)); refine blk_put (cs := #[.int .i64 t152, .int .i64 t153, .bool t154, .int .i64 0]) ?_ 3 _ rfl; (with_reducible repeat (first | refine blk_drewN ?_ _ | refine blk_drew ?_ | refine blk_alloc ?_ _)); refine blk_put (cs := #[.int .i64 t152, .int .i64 t153, .bool false, .int .i64 0]) ?_ 2 _ rfl; (with_reducible repeat (first | refine blk_drewN ?_ _ | refine blk_drew ?_ | refine blk_alloc ?_ _)); refine blk_put (cs := #[.int .i64 t152, .int .i64 0, .bool false, .int .i64 0]) ?_ 1 _ rfl; (with_reducible repeat (first | refine blk_drewN ?_ _ | refine blk_drew ?_ | refine blk_alloc ?_ _)); refine blk_put (cs := #[.int .i64 0, .int .i64 0, .bool false, .int .i64 0]) ?_ 0 _ rfl; (with_reducible repeat (first | refine blk_drewN ?_ _ | refine blk_drew ?_ | refine blk_alloc ?_ _)); exact BK157.out) k_ hk)); (case aO => exact (by (with_reducible repeat (first | apply Kd.R_alloc | apply Kd.R_drewN | apply Kd.R_drew)); exact Kd.R_mono (Kd.R_far (p := ⟨gb157, 3, none⟩) (Kd.R_far (p := ⟨gb157, 2, none⟩) (Kd.R_far (p := ⟨gb157, 1, none⟩) (Kd.R_far (p := ⟨gb157, 0, none⟩) (Kd.R_mono HO_6.out (fun k_ hk => (⟨hk, hk.2⟩ : _ ∧ k_ ≠ gb157))) (fun _ hk => hk.2) (.int .i64 t152)) (fun _ hk => hk.2) (.int .i64 t153)) (fun _ hk => hk.2) (.bool t154)) (fun _ hk => hk.2) (.int .i64 t155)) (fun _ hk => hk.1.2))); (case aS => exact (below_size (by repeat (first | (with_reducible first | exact HB.out | apply below_alloc | apply pw_below_drewN | apply below_drew1 | refine below_set ?_ GE151.out | refine below_set ?_ GE157.out) | exact HB.out)))); (case aL => have := LMc7.out; omega); intro v159 w14 ho hb hg hat; rw [← Ny158.out] at ho; have n0_ := Aside0.mk (blk_grown (g := gb151) (o := .cells #[.int .i64 ((rd_T104 l0 x13_1).f0.f0), .int .i64 ((rd_T104 l0 x13_1).f0.f1), .bool ((rd_T104 l0 x13_1).f1), .int .i64 ((rd_T104 l0 x13_1).f2.f0), .int .i64 ((rd_T104 l0 x13_1).f2.f1)] 104 (0, 0)) (by (with_reducible repeat (first | refine blk_drewN ?_ _ | refine blk_drew ?_ | refine blk_alloc ?_ _)); refine blk_far ?_ NB151_157.out _; (with_reducible repeat (first | refine blk_drewN ?_ _ | refine blk_drew ?_ | refine blk_alloc ?_ _)); refine blk_far ?_ NB151_157.out _; (with_reducible repeat (first | refine blk_drewN ?_ _ | refine blk_drew ?_ | refine blk_alloc ?_ _)); refine blk_far ?_ NB151_157.out _; (with_reducible repeat (first | refine blk_drewN ?_ _ | refine blk_drew ?_ | refine blk_alloc ?_ _)); refine blk_far ?_ NB151_157.out _; (with_reducible repeat (first | refine blk_drewN ?_ _ | refine blk_drew ?_ | refine blk_alloc ?_ _)); exact BK151.out) hg (Kd.R_ne HO_6.out BK151.out (by decide))); have n1_ := Aside0.mk (blk_grown (g := gb157) (o := .cells #[.int .i64 t152, .int .i64 t153, .bool t154, .int .i64 t155] 56 (0, 0)) (by (with_reducible repeat (first | refine blk_drewN ?_ _ | refine blk_drew ?_ | refine blk_alloc ?_ _)); refine blk_put (cs := #[.int .i64 t152, .int .i64 t153, .bool t154, .int .i64 0]) ?_ 3 _ rfl; (with_reducible repeat (first | refine blk_drewN ?_ _ | refine blk_drew ?_ | refine blk_alloc ?_ _)); refine blk_put (cs := #[.int .i64 t152, .int .i64 t153, .bool false, .int .i64 0]) ?_ 2 _ rfl; (with_reducible repeat (first | refine blk_drewN ?_ _ | refine blk_drew ?_ | refine blk_alloc ?_ _)); refine blk_put (cs := #[.int .i64 t152, .int .i64 0, .bool false, .int .i64 0]) ?_ 1 _ rfl; (with_reducible repeat (first | refine blk_drewN ?_ _ | refine blk_drew ?_ | refine blk_alloc ?_ _)); refine blk_put (cs := #[.int .i64 0, .int .i64 0, .bool false, .int .i64 0]) ?_ 0 _ rfl; (with_reducible repeat (first | refine blk_drewN ?_ _ | refine blk_drew ?_ | refine blk_alloc ?_ _)); exact BK157.out) hg (Kd.R_away HO_6.out (fun _ hk => hk.2))); have n2_ := Aside0.mk (hb); have n3_ := Aside0.mk (ho); clear BK151; clear BK157; clear HB; clear HO_6; have BK151 := n0_; have BK157 := n1_; have HB := n2_; have HO160 := n3_; clear n0_ n1_ n2_ n3_; clear ho hb hg hat))
                go_roundg k1
                case measure => have := HK1.out; omega
                case rel => exact ⟨(y158), (wrap64 (x13_1 + 1)), (by first | rfl | (simp; done) | (simp [*]; done)), H', ⟨by have := HK1.out; omega⟩, ⟨by (with_reducible repeat (first | apply Kd.R_alloc | apply Kd.R_drewN | apply Kd.R_drew)); exact Kd.R_mono HO160.out (fun _ hk => trivial)⟩, ⟨by repeat (first | (with_reducible first | exact HB.out | apply below_alloc | apply pw_below_drewN | apply below_drew1 | refine below_set ?_ GE151.out | refine below_set ?_ GE157.out) | exact HB.out)⟩⟩
              · rw [if_neg c7] at H
                exact absurd H (by simp)
            · rw [if_neg c6] at H
              have c6b0 : (t156 == 0) = false := beq_eq_false_iff_ne.mpr c6
              have c6b1 : (t156 != 0) = true := bne_iff_ne.mpr c6
              simp only [Option.some.injEq, Prod.mk.injEq] at H
              obtain ⟨rfl, rfl⟩ := H
              have p150 : 0 ≤ (x13_1 : Int) := of_decide_eq_true (by first | (with_reducible assumption) | assumption)
              have q150 : x13_1 < (l0.length : Int) := of_decide_eq_true (by first | (with_reducible assumption) | assumption)
              obtain ⟨ad150, e150, hx150_0, hx150_1, hx150_2, hx150_3, hx150_4⟩ := at_T104 HR0.out x13_1 p150 q150
              cases e150
              replace hx150_0 := (HB.out.cell (World.block_lt_of_cell? w _ hx150_0)).trans hx150_0
              replace hx150_1 := (HB.out.cell (World.block_lt_of_cell? w _ hx150_1)).trans hx150_1
              replace hx150_2 := (HB.out.cell (World.block_lt_of_cell? w _ hx150_2)).trans hx150_2
              replace hx150_3 := (HB.out.cell (World.block_lt_of_cell? w _ hx150_3)).trans hx150_3
              replace hx150_4 := (HB.out.cell (World.block_lt_of_cell? w _ hx150_4)).trans hx150_4
              replace p150 := eq_true p150
              replace q150 := eq_true q150
              go_wp2_with (first | ((with_reducible refine gate_dst (N := 8) rfl ?_); refine box_event ?hg (N := 8) ?hd (cs := #[.int .i64 0, .int .i64 0, .bool false, .int .i64 0, .int .i64 0]) (t := 104) ?hr ?_; (case hd => rfl); (case hg => rfl); (case hr => first | (go_simp; done) | (go_simp; rfl)); intro gb151 hg w15 hbox hb; have n0_ := Aside0.mk (Kd.R_below (by (with_reducible repeat (first | apply Kd.R_alloc | apply Kd.R_drewN | apply Kd.R_drew)); exact HO_6.out) hb); have n1_ := Aside0.mk (below_step (by repeat (first | (with_reducible first | exact HB.out | apply below_alloc | apply pw_below_drewN | apply below_drew1) | exact HB.out)) hb); have n2_ := Aside0.mk (hbox); have n3_ := Aside0.mk ((by rw [hg]; exact (below_size (by repeat (first | (with_reducible first | exact HB.out | apply below_alloc | apply pw_below_drewN | apply below_drew1) | exact HB.out))) : w.heap.size ≤ gb151)); have n4_ := Aside0.mk ((by rw [hg]; exact (below_size (by repeat (first | (with_reducible first | exact HB.out | apply below_alloc | apply pw_below_drewN | apply below_drew1) | exact HB.out))) : w.heap.size ≤ gb151)); clear HO_6; clear HB; have HO_6 := n0_; have HB := n1_; have BK151 := n2_; have GW151 := n3_; have GE151 := n4_; clear n0_ n1_ n2_ n3_ n4_; clear hb hbox hg; have hcz16_0 : w15.cell? ⟨gb151, 0, none⟩ = some (.int .i64 0) := (blk_cell BK151.out 0).trans rfl; have hcz16_1 : w15.cell? ⟨gb151, 1, none⟩ = some (.int .i64 0) := (blk_cell BK151.out 1).trans rfl; have hcz16_2 : w15.cell? ⟨gb151, 2, none⟩ = some (.bool false) := (blk_cell BK151.out 2).trans rfl; have hcz16_3 : w15.cell? ⟨gb151, 3, none⟩ = some (.int .i64 0) := (blk_cell BK151.out 3).trans rfl; have hcz16_4 : w15.cell? ⟨gb151, 4, none⟩ = some (.int .i64 0) := (blk_cell BK151.out 4).trans rfl; have hfz16_0 := blk_frozen BK151.out 0; have hfz16_1 := blk_frozen BK151.out 1; have hfz16_2 := blk_frozen BK151.out 2; have hfz16_3 := blk_frozen BK151.out 3; have hfz16_4 := blk_frozen BK151.out 4) | (go_at_call 86; (with_reducible refine (gauge_Made_1.calls x13_1 ((rd_T104 l0 x13_1).f0.f0) ((rd_T104 l0 x13_1).f0.f1) ((rd_T104 l0 x13_1).f1) ((rd_T104 l0 x13_1).f2.f0) ((rd_T104 l0 x13_1).f2.f1) t152 t153 t154 t155 t156 _ A5.out (by exact cap86_below HS.out (by repeat (first | (with_reducible first | exact HB.out | apply below_alloc | apply pw_below_drewN | apply below_drew1 | refine below_set ?_ GE151.out | refine below_set ?_ GE157.out) | exact HB.out)))).mono ?_); rintro e w17 ⟨rfl, hb⟩; skip; have n0_ := Aside0.mk (Kd.R_below (by (with_reducible repeat (first | apply Kd.R_alloc | apply Kd.R_drewN | apply Kd.R_drew)); exact (Kd.R_mono (Kd.R_far (p := ⟨gb151, 4, none⟩) (Kd.R_far (p := ⟨gb151, 3, none⟩) (Kd.R_far (p := ⟨gb151, 2, none⟩) (Kd.R_far (p := ⟨gb151, 1, none⟩) (Kd.R_far (p := ⟨gb151, 0, none⟩) (Kd.R_types HO_6.out BK151.out (by decide)) (fun _ hk => hk.2) (.int .i64 ((rd_T104 l0 x13_1).f0.f0))) (fun _ hk => hk.2) (.int .i64 ((rd_T104 l0 x13_1).f0.f1))) (fun _ hk => hk.2) (.bool ((rd_T104 l0 x13_1).f1))) (fun _ hk => hk.2) (.int .i64 ((rd_T104 l0 x13_1).f2.f0))) (fun _ hk => hk.2) (.int .i64 ((rd_T104 l0 x13_1).f2.f1))) (fun _ h_ => h_.1))) hb); have n1_ := Aside0.mk (blk_below (g := gb151) (o := .cells #[.int .i64 ((rd_T104 l0 x13_1).f0.f0), .int .i64 ((rd_T104 l0 x13_1).f0.f1), .bool ((rd_T104 l0 x13_1).f1), .int .i64 ((rd_T104 l0 x13_1).f2.f0), .int .i64 ((rd_T104 l0 x13_1).f2.f1)] 104 (0, 0)) (by (with_reducible repeat (first | refine blk_drewN ?_ _ | refine blk_drew ?_ | refine blk_alloc ?_ _)); refine blk_put (cs := #[.int .i64 ((rd_T104 l0 x13_1).f0.f0), .int .i64 ((rd_T104 l0 x13_1).f0.f1), .bool ((rd_T104 l0 x13_1).f1), .int .i64 ((rd_T104 l0 x13_1).f2.f0), .int .i64 0]) ?_ 4 _ rfl; (with_reducible repeat (first | refine blk_drewN ?_ _ | refine blk_drew ?_ | refine blk_alloc ?_ _)); refine blk_put (cs := #[.int .i64 ((rd_T104 l0 x13_1).f0.f0), .int .i64 ((rd_T104 l0 x13_1).f0.f1), .bool ((rd_T104 l0 x13_1).f1), .int .i64 0, .int .i64 0]) ?_ 3 _ rfl; (with_reducible repeat (first | refine blk_drewN ?_ _ | refine blk_drew ?_ | refine blk_alloc ?_ _)); refine blk_put (cs := #[.int .i64 ((rd_T104 l0 x13_1).f0.f0), .int .i64 ((rd_T104 l0 x13_1).f0.f1), .bool false, .int .i64 0, .int .i64 0]) ?_ 2 _ rfl; (with_reducible repeat (first | refine blk_drewN ?_ _ | refine blk_drew ?_ | refine blk_alloc ?_ _)); refine blk_put (cs := #[.int .i64 ((rd_T104 l0 x13_1).f0.f0), .int .i64 0, .bool false, .int .i64 0, .int .i64 0]) ?_ 1 _ rfl; (with_reducible repeat (first | refine blk_drewN ?_ _ | refine blk_drew ?_ | refine blk_alloc ?_ _)); refine blk_put (cs := #[.int .i64 0, .int .i64 0, .bool false, .int .i64 0, .int .i64 0]) ?_ 0 _ rfl; (with_reducible repeat (first | refine blk_drewN ?_ _ | refine blk_drew ?_ | refine blk_alloc ?_ _)); exact BK151.out) hb); have n2_ := Aside0.mk (below_step (by repeat (first | (with_reducible first | exact HB.out | apply below_alloc | apply pw_below_drewN | apply below_drew1 | refine below_set ?_ GE151.out) | exact HB.out)) hb); clear HO_6; clear BK151; clear HB; have HO_6 := n0_; have BK151 := n1_; have HB := n2_; clear n0_ n1_ n2_; (try clear hb); (try clear hb2); (try clear hk); (try clear hi)) | ((with_reducible refine gate_dst (N := 9) rfl ?_); refine box_event ?hg (N := 9) ?hd (cs := #[.int .i64 0, .int .i64 0, .bool false, .int .i64 0]) (t := 56) ?hr ?_; (case hd => rfl); (case hg => rfl); (case hr => first | (go_simp; done) | (go_simp; rfl)); intro gb157 hg w18 hbox hb; have n0_ := Aside0.mk (Kd.R_below (Kd.R_elderB (by (with_reducible repeat (first | apply Kd.R_alloc | apply Kd.R_drewN | apply Kd.R_drew)); exact HO_6.out) gb157 (Nat.le_of_eq hg.symm)) hb); have n1_ := Aside0.mk (blk_below (g := gb151) (o := .cells #[.int .i64 ((rd_T104 l0 x13_1).f0.f0), .int .i64 ((rd_T104 l0 x13_1).f0.f1), .bool ((rd_T104 l0 x13_1).f1), .int .i64 ((rd_T104 l0 x13_1).f2.f0), .int .i64 ((rd_T104 l0 x13_1).f2.f1)] 104 (0, 0)) (by (with_reducible repeat (first | refine blk_drewN ?_ _ | refine blk_drew ?_ | refine blk_alloc ?_ _)); exact BK151.out) hb); have n2_ := Aside0.mk (below_step (by repeat (first | (with_reducible first | exact HB.out | apply below_alloc | apply pw_below_drewN | apply below_drew1 | refine below_set ?_ GE151.out) | exact HB.out)) hb); have n3_ := Aside0.mk (hbox); have n4_ := Aside0.mk ((by rw [hg]; exact (below_size (by repeat (first | (with_reducible first | exact HB.out | apply below_alloc | apply pw_below_drewN | apply below_drew1 | refine below_set ?_ GE151.out) | exact HB.out))) : w.heap.size ≤ gb157)); have n5_ := Aside0.mk ((by rw [hg]; exact (below_size (by repeat (first | (with_reducible first | exact HB.out | apply below_alloc | apply pw_below_drewN | apply below_drew1 | refine below_set ?_ GE151.out) | exact HB.out))) : w.heap.size ≤ gb157)); have n6_ := Aside0.mk ((by rw [hg]; exact Nat.ne_of_lt (blk_lt (g := gb151) (o := .cells #[.int .i64 ((rd_T104 l0 x13_1).f0.f0), .int .i64 ((rd_T104 l0 x13_1).f0.f1), .bool ((rd_T104 l0 x13_1).f1), .int .i64 ((rd_T104 l0 x13_1).f2.f0), .int .i64 ((rd_T104 l0 x13_1).f2.f1)] 104 (0, 0)) (by (with_reducible repeat (first | refine blk_drewN ?_ _ | refine blk_drew ?_ | refine blk_alloc ?_ _)); exact BK151.out)) : gb151 ≠ gb157)); have n7_ := Aside0.mk ((by rw [hg]; exact Nat.ne_of_gt (blk_lt (g := gb151) (o := .cells #[.int .i64 ((rd_T104 l0 x13_1).f0.f0), .int .i64 ((rd_T104 l0 x13_1).f0.f1), .bool ((rd_T104 l0 x13_1).f1), .int .i64 ((rd_T104 l0 x13_1).f2.f0), .int .i64 ((rd_T104 l0 x13_1).f2.f1)] 104 (0, 0)) (by (with_reducible repeat (first | refine blk_drewN ?_ _ | refine blk_drew ?_ | refine blk_alloc ?_ _)); exact BK151.out)) : gb157 ≠ gb151)); clear HO_6; clear BK151; clear HB; have HO_6 := n0_; have BK151 := n1_; have HB := n2_; have BK157 := n3_; have GW157 := n4_; have GE157 := n5_; have NB151_157 := n6_; have NB157_151 := n7_; clear n0_ n1_ n2_ n3_ n4_ n5_ n6_ n7_; clear hb hbox hg; have hnb19 := NB157_151.out; have hnc19 := NB151_157.out; have hcz20_0 : w18.cell? ⟨gb157, 0, none⟩ = some (.int .i64 0) := (blk_cell BK157.out 0).trans rfl; have hcz20_1 : w18.cell? ⟨gb157, 1, none⟩ = some (.int .i64 0) := (blk_cell BK157.out 1).trans rfl; have hcz20_2 : w18.cell? ⟨gb157, 2, none⟩ = some (.bool false) := (blk_cell BK157.out 2).trans rfl; have hcz20_3 : w18.cell? ⟨gb157, 3, none⟩ = some (.int .i64 0) := (blk_cell BK157.out 3).trans rfl; have hfz20_0 := blk_frozen BK157.out 0; have hfz20_1 := blk_frozen BK157.out 1; have hfz20_2 := blk_frozen BK157.out 2; have hfz20_3 := blk_frozen BK157.out 3))
              go_ret2
              exact ⟨_, by first | rfl | (simp [errW_none, errW_some] <;> rfl) | (simp [*, errW_none, errW_some] <;> rfl), by first | exact Kd.R_nil _ _ _ _ _ | exact Kd.N_nil _ _ _ _ _ | exact Kd.V_nil _ _ _ _ _ | exact Kd.Q_nil _ _ _ _ _ | exact Kd.S_nil _ _ _ _ _, by repeat (first | (with_reducible first | exact HB.out | apply below_alloc | apply pw_below_drewN | apply below_drew1 | refine below_set ?_ GE151.out | refine below_set ?_ GE157.out) | exact HB.out)⟩
          · rw [if_neg c4] at H
            exact absurd H (by simp)
        · rw [if_neg c3] at H
          exact absurd H (by simp)
      · rw [if_neg c2] at H
        have c2b0 : decide (x13_1 < (l0.length : Int)) = false := decide_eq_false c2
        clear c2
        simp only [Option.some.injEq, Prod.mk.injEq] at H
        obtain ⟨rfl, rfl⟩ := H
        go_wp2
        go_ret2
        exact ⟨_, by first | rfl | (simp [errW_none, errW_some] <;> rfl) | (simp [*, errW_none, errW_some] <;> rfl), by (with_reducible repeat (first | apply Kd.R_alloc | apply Kd.R_drewN | apply Kd.R_drew)); exact HO_6.out, by repeat (first | (with_reducible first | exact HB.out | apply below_alloc | apply pw_below_drewN | apply below_drew1) | exact HB.out)⟩
end
end Go.Proofs.YtjemaonejkepcaaDoor.G
namespace Go.Proofs.YtjemaonejkepcaaDoor.G
open Go.Proofs.YtjemaonejkepcaaDoor.B
open Go.RowKit Go.Proofs.YtjemaonejkepcaaDoorW.PrintWords Go.Proofs.YtjemaonejkepcaaDoorW.PrintLast Go.Proofs.YtjemaonejkepcaaDoorW.PrintMore
attribute [local go_sem] max2_int min2_int max_two min_two max_three min_three max_four min_four   -- for this text's walks alone
set_option linter.unusedVariables false
set_option linter.unusedSimpArgs false
theorem gauge_Made.tool (q : Bool) (g : Nat) (k : Nat) (A0 : Option Addr) (c0 : Nat) (l0 : List (S104)) (r1 : List (S56)) (r2 : Int) (w : World) (hr0 : Kd.C k104 w A0 l0.length l0) (hc0 : l0.length ≤ c0) (h : @gauge_Tool_85.f (Dat86.mk q) k l0 = some (r1, r2)) (hS : w.heap[g]? = some (.cells #[.bool q] 4 (0, 0))) :
    Calls Tryd.prog 85 #[.slice A0 l0.length c0, .func (.func 86) #[] #[.pointer (some ⟨g, 0, none⟩)]] w fun e w' => ∃ v0_ : Value, e = .returned (.tuple #[v0_, .int .i64 r2]) ∧ Kd.R k56 56 w' w.heap.size (fun _ => True) v0_ r1 ∧ Below w.heap.size w w' :=
  @gauge_Tool_85.calls (Dat86.mk q) (Adr86.mk g) k A0 c0 l0 r1 r2 w hr0 hc0 h hS
def gauge_Made.f (k : Nat) (l0 : List (S104)) (high : Bool) : Option (List (S56) × Int) := (gauge_few.f (l0.length : Int)).bind fun t => if t = 0 then @gauge_Tool_85.f ⟨high⟩ k l0 else some (([] : List (S56)), t)
theorem gauge_Made.mono : ∀ a0 a1 k, LeO (gauge_Made.f k a0 a1) (gauge_Made.f (k + 1) a0 a1) := by
  intro a0 a1 k
  unfold gauge_Made.f
  exact LeO.bind (LeO.refl _) (fun _ => LeO.ite (@gauge_Tool_85.mono ⟨a1⟩ _ _) (LeO.refl _))
set_option maxHeartbeats 8000000 in
set_option maxRecDepth 100000 in
theorem gauge_Made.calls (k : Nat) (A0 : Option Addr) (c0 : Nat) (l0 : List (S104)) (high : Bool) (r1 : List (S56)) (r2 : Int) (w : World) (hr0 : Kd.C k104 w A0 l0.length l0) (hc0 : l0.length ≤ c0) (h : gauge_Made.f k l0 high = some (r1, r2)) (hS : SignsAt w) :
    Calls Tryd.prog 34 #[.slice A0 l0.length c0, .bool high] w fun e w' => ∃ v0_ : Value, e = .returned (.tuple #[v0_, .int .i64 r2]) ∧ Kd.R k56 56 w' w.heap.size (fun _ => True) v0_ r1 ∧ Below w.heap.size w w' := by
  have HR0 := Aside0.mk hr0
  have HC0 := Aside0.mk hc0
  clear hr0 hc0 hS
  obtain ⟨t, A30, H⟩ := Option.bind_eq_some_iff.mp h
  clear h
  have A3 := Aside0.mk A30
  clear A30
  by_cases c4 : t = 0
  · rw [if_pos c4] at H
    have c4b1 : (t != 0) = false := bne_eq_false_iff_eq.mpr c4
    clear c4
    have A5 := Aside0.mk H
    clear H
    go_enter Tryd.func34, Tryd.ntmps34
    go_wp2_with (first
      | ((with_reducible refine gate_dst (N := 3) rfl ?_); refine box_event ?hg (N := 3) ?hd (cs := #[.bool high]) (t := 4) ?hr ?_; (case hd => rfl); (case hg => rfl); (case hr => first | (go_simp; done) | (go_simp; rfl)); intro gb hg w3 hbox hb; have HB := Aside0.mk hb; have BK := Aside0.mk hbox; clear hg hbox hb)
      | ((with_reducible refine gate_callee (f := 84) rfl ?_); refine goesL_ (some 9) rfl rfl Tryd.func84 (by kernel_rfl) rfl #[.int .i64 (l0.length : Int)] rfl (by (try simp only [List.map_toArray, List.map_cons, List.map_nil]); first | done | rfl | (simp only [List.length_drop, List.length_take]; rfl)) ?_; (with_reducible refine (gauge_few.calls (l0.length : Int) t _ A3.out).mono ?_); rintro e w' ⟨rfl, ⟨nd, rfl⟩⟩; refine ⟨_, rfl, ?_⟩)
      | (go_at_call 85; (with_reducible refine (gauge_Made.tool high gb k _ _ l0 r1 r2 _ ?side1 ?side2 A5.out (by exact blk_below BK.out (by repeat (first | exact Below.refl _ _ | apply below_alloc | apply pw_below_drewN | apply below_drew1)))).mono ?_); (case side1 => repeat (first | exact (Kd.C_below HR0.out HB.out) | (with_reducible refine Kd.C_alloc ?_ _) | (with_reducible refine Kd.C_drewN ?_ _) | (with_reducible refine Kd.C_drew ?_))); (case side2 => exact HC0.out); rintro e w6 ⟨v114, rfl, ho0, hb⟩; have n0_ := Aside0.mk (Kd.R_lower ho0 (below_size (by repeat (first | (with_reducible first | exact HB.out | apply below_alloc | apply pw_below_drewN | apply below_drew1) | exact HB.out)))); have n1_ := Aside0.mk (below_step (by repeat (first | (with_reducible first | exact HB.out | apply below_alloc | apply pw_below_drewN | apply below_drew1) | exact HB.out)) hb); clear HB; have HO115 := n0_; have HB := n1_; clear n0_ n1_ hb ho0))
    go_ret2
    exact ⟨_, rfl, HO115.out, by repeat (first | (with_reducible first | exact HB.out | apply below_alloc | apply pw_below_drewN | apply below_drew1) | exact HB.out)⟩
  · rw [if_neg c4] at H
    have c4b1 : (t != 0) = true := bne_iff_ne.mpr c4
    clear c4
    simp only [Option.some.injEq, Prod.mk.injEq] at H
    obtain ⟨rfl, rfl⟩ := H
    go_enter Tryd.func34, Tryd.ntmps34
    go_wp2_with (first
      | ((with_reducible refine gate_dst (N := 3) rfl ?_); refine box_event ?hg (N := 3) ?hd (cs := #[.bool high]) (t := 4) ?hr ?_; (case hd => rfl); (case hg => rfl); (case hr => first | (go_simp; done) | (go_simp; rfl)); intro gb hg w3 hbox hb; have HB := Aside0.mk hb; clear hg hbox hb)
      | ((with_reducible refine gate_callee (f := 84) rfl ?_); refine goesL_ (some 9) rfl rfl Tryd.func84 (by kernel_rfl) rfl #[.int .i64 (l0.length : Int)] rfl (by (try simp only [List.map_toArray, List.map_cons, List.map_nil]); first | done | rfl | (simp only [List.length_drop, List.length_take]; rfl)) ?_; (with_reducible refine (gauge_few.calls (l0.length : Int) t _ A3.out).mono ?_); rintro e w' ⟨rfl, ⟨nd, rfl⟩⟩; refine ⟨_, rfl, ?_⟩))
    go_ret2
    exact ⟨_, by first | rfl | (simp [errW_none, errW_some] <;> rfl) | (simp [*, errW_none, errW_some] <;> rfl), by first | exact Kd.R_nil _ _ _ _ _, by repeat (first | (with_reducible first | exact HB.out | apply below_alloc | apply pw_below_drewN | apply below_drew1) | exact HB.out)⟩
end Go.Proofs.YtjemaonejkepcaaDoor.G
namespace Go.Proofs.YtjemaonejkepcaaDoor.G
open Go.Proofs.YtjemaonejkepcaaDoor.B
open Go.RowKit Go.Proofs.YtjemaonejkepcaaDoorW.PrintWords Go.Proofs.YtjemaonejkepcaaDoorW.PrintLast Go.Proofs.YtjemaonejkepcaaDoorW.PrintMore
attribute [local go_sem] max2_int min2_int max_two min_two max_three min_three max_four min_four   -- for this text's walks alone
set_option linter.unusedVariables false
set_option linter.unusedSimpArgs false
/-- What Worn's closure knows: the targets and their virtual sizes; and where it captured them. -/
class Dat89 where
  l : List S27
  sz : List Int
class Adr89 where
  gl : Nat
  gs : Nat
  A : Option Addr
  c : Nat
  B : Option Addr
  d : Nat
def CapAt89 [q : Dat89] [a : Adr89] (w : World) : Prop := w.heap[a.gl]? = some (.cells #[.slice a.A q.l.length a.c] 42 (0, 0)) ∧ w.heap[a.gs]? = some (.cells #[.slice a.B q.sz.length a.d] 58 (0, 0)) ∧ Kd.C k27 w a.A q.l.length q.l ∧ Kd.C (Kd.int .i64) w a.B q.sz.length q.sz
theorem cap89_below [Dat89] [Adr89] {w w' : World} (h : CapAt89 w) (hb : Below w.heap.size w w') : CapAt89 w' := ⟨(hb.block _ (blk_lt h.1)).trans h.1, (hb.block _ (blk_lt h.2.1)).trans h.2.1, Kd.C_below h.2.2.1 hb, Kd.C_below h.2.2.2 hb⟩
def gauge_Worn_1.f [q : Dat89] (a0 : Int) (x y : Int) (hole : Bool) (s : Int) : Option (Bool × Int) :=
  if 0 ≤ a0 then if a0 < (q.l.length : Int) then if a0 < (q.sz.length : Int) then (gauge_ranged.f s).bind fun t => if t = true then (if x = (rd_T27 q.l a0).f0.f0 ∧ y = (rd_T27 q.l a0).f0.f1 ∧ hole = (rd_T27 q.l a0).f4 then (if hole = true then some (decide (s > rd q.sz a0), 0) else some (decide (s < rd q.sz a0), 0)) else some (false, 16)) else some (false, 2) else none else none else none
attribute [local go_sem high] eqA23
set_option maxHeartbeats 4000000 in
set_option maxRecDepth 100000 in
theorem gauge_Worn_1.calls [q : Dat89] [a : Adr89] (a0 : Int) (x y : Int) (hole : Bool) (s : Int) (r1 : Bool) (r2 : Int) (w : World) (h : gauge_Worn_1.f a0 x y hole s = some (r1, r2)) (hS : CapAt89 w) :
    Calls Tryd.prog 89 #[.int .i64 a0, .agg #[.int .i64 x, .int .i64 y, .bool hole, .int .i64 s], .pointer (some ⟨a.gl, 0, none⟩), .pointer (some ⟨a.gs, 0, none⟩)] w fun e w' => e = .returned (.tuple #[.bool r1, .int .i64 r2]) ∧ Below w.heap.size w w' := by
  have hu56 := Tryd.underlying56
  have hu27 := Tryd.underlying27
  unfold gauge_Worn_1.f at h
  by_cases h0 : 0 ≤ a0
  · rw [if_pos h0] at h
    by_cases h1 : a0 < (q.l.length : Int)
    · rw [if_pos h1] at h
      by_cases h2 : a0 < (q.sz.length : Int)
      · rw [if_pos h2] at h
        obtain ⟨t, ht, h⟩ := Option.bind_eq_some_iff.mp h
        have A1 := Aside0.mk ht
        clear ht
        obtain ⟨adl, el, l0, l1, l2, l3, l4, l5, l6⟩ := at_T27 hS.2.2.1 a0 h0 h1
        obtain ⟨ads, es, s0⟩ := Kd.at_int hS.2.2.2 a0 h0 h2
        have g1 : w.cell? ⟨a.gl, 0, none⟩ = some (.slice (some adl) q.l.length a.c) := by rw [← el]; exact (blk_cell hS.1 0).trans rfl
        have g2 : w.cell? ⟨a.gs, 0, none⟩ = some (.slice (some ads) q.sz.length a.d) := by rw [← es]; exact (blk_cell hS.2.1 0).trans rfl
        clear hS el es l2 l3 l4 l5
        generalize (rd_T27 q.l a0).f0.f0 = X at *
        generalize (rd_T27 q.l a0).f0.f1 = Y at *
        generalize (rd_T27 q.l a0).f4 = P at *
        generalize rd q.sz a0 = z at *
        generalize q.l.length = nl at *
        generalize q.sz.length = ns at *
        cases t with
        | false =>
          simp at h
          obtain ⟨rfl, rfl⟩ := h
          go_enter Tryd.func89, Tryd.ntmps89
          go_upto_region 3 with (first
          | ((with_reducible refine gate_dst (N := 5) rfl ?_); refine box_event ?hg (N := 5) ?hd (cs := #[.int .i64 x, .int .i64 y, .bool hole, .int .i64 s]) (t := 56) ?hr ?_; (case hd => rfl); (case hg => rfl); (case hr => first | (go_simp; done) | (go_simp; rfl)); intro gb hg w3 hbox hb; have HB := Aside0.mk hb; have c0 : w3.cell? ⟨gb, 0, none⟩ = some (.int .i64 x) := (blk_cell hbox 0).trans rfl; have c1 : w3.cell? ⟨gb, 1, none⟩ = some (.int .i64 y) := (blk_cell hbox 1).trans rfl; have c2 : w3.cell? ⟨gb, 2, none⟩ = some (.bool hole) := (blk_cell hbox 2).trans rfl; have c3 : w3.cell? ⟨gb, 3, none⟩ = some (.int .i64 s) := (blk_cell hbox 3).trans rfl; replace g1 := pw_cell_below hb g1; replace g2 := pw_cell_below hb g2; replace l0 := pw_cell_below hb l0; replace l1 := pw_cell_below hb l1; replace l6 := pw_cell_below hb l6; replace s0 := pw_cell_below hb s0; clear hg hbox hb)
          | (go_at_call 90; (with_reducible refine (gauge_ranged.calls s false _ A1.out).mono ?_); rintro e w' ⟨rfl, ⟨nd, rfl⟩⟩))
          go_ret2
          exact ⟨rfl, by repeat (first | exact HB.out | apply below_alloc | apply pw_below_drewN | apply below_drew1)⟩
        | true =>
          rw [if_pos rfl] at h
          by_cases hA : (!(x == X) || (!(y == Y))) = true
          · have hne : ¬ (x = X ∧ y = Y ∧ hole = P) := by
              rintro ⟨rfl, rfl, _⟩; simp at hA
            rw [if_neg hne] at h
            simp at h
            obtain ⟨rfl, rfl⟩ := h
            clear hne
            go_enter Tryd.func89, Tryd.ntmps89
            go_upto_region 3 with (first
          | ((with_reducible refine gate_dst (N := 5) rfl ?_); refine box_event ?hg (N := 5) ?hd (cs := #[.int .i64 x, .int .i64 y, .bool hole, .int .i64 s]) (t := 56) ?hr ?_; (case hd => rfl); (case hg => rfl); (case hr => first | (go_simp; done) | (go_simp; rfl)); intro gb hg w3 hbox hb; have HB := Aside0.mk hb; have c0 : w3.cell? ⟨gb, 0, none⟩ = some (.int .i64 x) := (blk_cell hbox 0).trans rfl; have c1 : w3.cell? ⟨gb, 1, none⟩ = some (.int .i64 y) := (blk_cell hbox 1).trans rfl; have c2 : w3.cell? ⟨gb, 2, none⟩ = some (.bool hole) := (blk_cell hbox 2).trans rfl; have c3 : w3.cell? ⟨gb, 3, none⟩ = some (.int .i64 s) := (blk_cell hbox 3).trans rfl; replace g1 := pw_cell_below hb g1; replace g2 := pw_cell_below hb g2; replace l0 := pw_cell_below hb l0; replace l1 := pw_cell_below hb l1; replace l6 := pw_cell_below hb l6; replace s0 := pw_cell_below hb s0; clear hg hbox hb)
          | (go_at_call 90; (with_reducible refine (gauge_ranged.calls s true _ A1.out).mono ?_); rintro e w' ⟨rfl, ⟨nd, rfl⟩⟩))
            go_quiet (fail)
            go_wp2
            go_ret2
            exact ⟨rfl, by repeat (first | exact HB.out | apply below_alloc | apply pw_below_drewN | apply below_drew1)⟩
          · have hA' : (!(x == X) || (!(y == Y))) = false := by simpa using hA
            have e : x = X ∧ y = Y := by simpa using hA
            by_cases hP : (!(hole == P)) = true
            · have hne : ¬ (x = X ∧ y = Y ∧ hole = P) := by
                rintro ⟨_, _, rfl⟩; simp at hP
              rw [if_neg hne] at h
              simp at h
              obtain ⟨rfl, rfl⟩ := h
              clear hne hA e
              go_enter Tryd.func89, Tryd.ntmps89
              go_upto_region 3 with (first
          | ((with_reducible refine gate_dst (N := 5) rfl ?_); refine box_event ?hg (N := 5) ?hd (cs := #[.int .i64 x, .int .i64 y, .bool hole, .int .i64 s]) (t := 56) ?hr ?_; (case hd => rfl); (case hg => rfl); (case hr => first | (go_simp; done) | (go_simp; rfl)); intro gb hg w3 hbox hb; have HB := Aside0.mk hb; have c0 : w3.cell? ⟨gb, 0, none⟩ = some (.int .i64 x) := (blk_cell hbox 0).trans rfl; have c1 : w3.cell? ⟨gb, 1, none⟩ = some (.int .i64 y) := (blk_cell hbox 1).trans rfl; have c2 : w3.cell? ⟨gb, 2, none⟩ = some (.bool hole) := (blk_cell hbox 2).trans rfl; have c3 : w3.cell? ⟨gb, 3, none⟩ = some (.int .i64 s) := (blk_cell hbox 3).trans rfl; replace g1 := pw_cell_below hb g1; replace g2 := pw_cell_below hb g2; replace l0 := pw_cell_below hb l0; replace l1 := pw_cell_below hb l1; replace l6 := pw_cell_below hb l6; replace s0 := pw_cell_below hb s0; clear hg hbox hb)
          | (go_at_call 90; (with_reducible refine (gauge_ranged.calls s true _ A1.out).mono ?_); rintro e w' ⟨rfl, ⟨nd, rfl⟩⟩))
              go_quiet (fail)
              go_wp2
              go_ret2
              exact ⟨rfl, by repeat (first | exact HB.out | apply below_alloc | apply pw_below_drewN | apply below_drew1)⟩
            · obtain rfl : hole = P := by simpa using hP
              obtain ⟨rfl, rfl⟩ := e
              rw [if_pos ⟨rfl, rfl, rfl⟩] at h
              clear hA hA' hP
              cases hole with
              | true =>
                rw [if_pos rfl] at h
                simp only [Option.some.injEq, Prod.mk.injEq] at h
                obtain ⟨rfl, rfl⟩ := h
                go_enter Tryd.func89, Tryd.ntmps89
                go_upto_region 3 with (first
          | ((with_reducible refine gate_dst (N := 5) rfl ?_); refine box_event ?hg (N := 5) ?hd (cs := #[.int .i64 x, .int .i64 y, .bool true, .int .i64 s]) (t := 56) ?hr ?_; (case hd => rfl); (case hg => rfl); (case hr => first | (go_simp; done) | (go_simp; rfl)); intro gb hg w3 hbox hb; have HB := Aside0.mk hb; have c0 : w3.cell? ⟨gb, 0, none⟩ = some (.int .i64 x) := (blk_cell hbox 0).trans rfl; have c1 : w3.cell? ⟨gb, 1, none⟩ = some (.int .i64 y) := (blk_cell hbox 1).trans rfl; have c2 : w3.cell? ⟨gb, 2, none⟩ = some (.bool true) := (blk_cell hbox 2).trans rfl; have c3 : w3.cell? ⟨gb, 3, none⟩ = some (.int .i64 s) := (blk_cell hbox 3).trans rfl; replace g1 := pw_cell_below hb g1; replace g2 := pw_cell_below hb g2; replace l0 := pw_cell_below hb l0; replace l1 := pw_cell_below hb l1; replace l6 := pw_cell_below hb l6; replace s0 := pw_cell_below hb s0; clear hg hbox hb)
          | (go_at_call 90; (with_reducible refine (gauge_ranged.calls s true _ A1.out).mono ?_); rintro e w' ⟨rfl, ⟨nd, rfl⟩⟩))
                go_quiet (fail)
                go_wp2
                go_quiet (fail)
                go_wp2
                go_ret2
                exact ⟨rfl, by repeat (first | exact HB.out | apply below_alloc | apply pw_below_drewN | apply below_drew1)⟩
              | false =>
                rw [if_neg Bool.false_ne_true] at h
                simp only [Option.some.injEq, Prod.mk.injEq] at h
                obtain ⟨rfl, rfl⟩ := h
                go_enter Tryd.func89, Tryd.ntmps89
                go_upto_region 3 with (first
          | ((with_reducible refine gate_dst (N := 5) rfl ?_); refine box_event ?hg (N := 5) ?hd (cs := #[.int .i64 x, .int .i64 y, .bool false, .int .i64 s]) (t := 56) ?hr ?_; (case hd => rfl); (case hg => rfl); (case hr => first | (go_simp; done) | (go_simp; rfl)); intro gb hg w3 hbox hb; have HB := Aside0.mk hb; have c0 : w3.cell? ⟨gb, 0, none⟩ = some (.int .i64 x) := (blk_cell hbox 0).trans rfl; have c1 : w3.cell? ⟨gb, 1, none⟩ = some (.int .i64 y) := (blk_cell hbox 1).trans rfl; have c2 : w3.cell? ⟨gb, 2, none⟩ = some (.bool false) := (blk_cell hbox 2).trans rfl; have c3 : w3.cell? ⟨gb, 3, none⟩ = some (.int .i64 s) := (blk_cell hbox 3).trans rfl; replace g1 := pw_cell_below hb g1; replace g2 := pw_cell_below hb g2; replace l0 := pw_cell_below hb l0; replace l1 := pw_cell_below hb l1; replace l6 := pw_cell_below hb l6; replace s0 := pw_cell_below hb s0; clear hg hbox hb)
          | (go_at_call 90; (with_reducible refine (gauge_ranged.calls s true _ A1.out).mono ?_); rintro e w' ⟨rfl, ⟨nd, rfl⟩⟩))
                go_quiet (fail)
                go_wp2
                go_quiet (fail)
                go_wp2
                go_ret2
                exact ⟨rfl, by repeat (first | exact HB.out | apply below_alloc | apply pw_below_drewN | apply below_drew1)⟩
      · rw [if_neg h2] at h; cases h
    · rw [if_neg h1] at h; cases h
  · rw [if_neg h0] at h; cases h
end Go.Proofs.YtjemaonejkepcaaDoor.G
namespace Go.Proofs.YtjemaonejkepcaaDoor.G
open Go.Proofs.YtjemaonejkepcaaDoor.B
open Go.RowKit Go.Proofs.YtjemaonejkepcaaDoorW.PrintWords Go.Proofs.YtjemaonejkepcaaDoorW.PrintLast Go.Proofs.YtjemaonejkepcaaDoorW.PrintMore
attribute [local go_sem] max2_int min2_int max_two min_two max_three min_three max_four min_four   -- for this text's walks alone
set_option linter.unusedVariables false
set_option linter.unusedSimpArgs false
section
variable [q89 : Dat89]
def gauge_Tool_bool.l0 : Nat → List Bool → List (S56) → Int → Int → Option (List Bool × Int)
  | 0, _, _, _, _ => none
  | k + 1, x6, x11, x12, x13 => if x13 < x12 then (if 0 ≤ x13 then (if x13 < (x11.length : Int) then ((gauge_Worn_1.f x13 ((rd_T56 x11 x13).f0.f0) ((rd_T56 x11 x13).f0.f1) ((rd_T56 x11 x13).f1) ((rd_T56 x11 x13).f2)).bind fun bt163 => (if bt163.2 = 0 then (if x6.length < 140737488355328 then (gauge_Tool_bool.l0 k (x6 ++ [bt163.1]) x11 x12 (wrap64 (x13 + 1))) else (none)) else (some (([] : List Bool), bt163.2)))) else (none)) else (none)) else (some (x6, 0))
def gauge_Tool_bool.f (k : Nat) (l0 : List (S56)) : Option (List Bool × Int) := gauge_Tool_bool.l0 k ([] : List Bool) l0 (l0.length : Int) 0
theorem gauge_Tool_bool.mono_l : ∀ k, (∀ y0 y1 y2 y3, LeO (gauge_Tool_bool.l0 k y0 y1 y2 y3) (gauge_Tool_bool.l0 (k + 1) y0 y1 y2 y3))
  | 0 => fun _ _ _ _ r h => by simp [gauge_Tool_bool.l0] at h
  | k + 1 => by
    have ih0 := gauge_Tool_bool.mono_l k
    · intro y0 y1 y2 y3
      unfold gauge_Tool_bool.l0
      repeat' first
      | (with_reducible exact ih0 _ _ _ _)
      | (with_reducible exact LeO.refl _)
      | (with_reducible exact LeO.none _)
      | (with_reducible refine LeO.ite ?_ ?_)
      | (with_reducible refine LeO.bind ?_ (fun _ => ?_))
      | exact ih0 _ _ _ _
      | exact LeO.none _
      | refine LeO.ite ?_ ?_
      | refine LeO.bind ?_ (fun _ => ?_)
theorem gauge_Tool_bool.mono : ∀ a0 k, LeO (gauge_Tool_bool.f k a0) (gauge_Tool_bool.f (k + 1) a0) := by
  intro a0 k
  have ih0 := gauge_Tool_bool.mono_l k
  unfold gauge_Tool_bool.f
  repeat' first
      | (with_reducible exact ih0 _ _ _ _)
      | (with_reducible exact LeO.refl _)
      | (with_reducible exact LeO.none _)
      | (with_reducible refine LeO.ite ?_ ?_)
      | (with_reducible refine LeO.bind ?_ (fun _ => ?_))
      | exact ih0 _ _ _ _
      | exact LeO.none _
      | refine LeO.ite ?_ ?_
      | refine LeO.bind ?_ (fun _ => ?_)
set_option maxHeartbeats 8000000 in
set_option maxRecDepth 100000 in
theorem gauge_Tool_bool.calls [Adr89] (k : Nat) (A0 : Option Addr) (c0 : Nat) (l0 : List (S56)) (r1 : List Bool) (r2 : Int) (w : World) (hr0 : Kd.C k56 w A0 l0.length l0) (hc0 : l0.length ≤ c0) (h : gauge_Tool_bool.f k l0 = some (r1, r2)) (hS : CapAt89 w) :
    Calls Tryd.prog 88 #[.slice A0 l0.length c0, .func (.func 89) #[] #[.pointer (some ⟨Adr89.gl, 0, none⟩), .pointer (some ⟨Adr89.gs, 0, none⟩)]] w fun e w' => ∃ v0_ : Value, e = .returned (.tuple #[v0_, .int .i64 r2]) ∧ Kd.R Kd.bool 4 w' w.heap.size (fun _ => True) v0_ r1 ∧ Below w.heap.size w w' := by
  have HS := Aside0.mk hS
  clear hS
  have hu56 := Tryd.underlying56
  have HR0 := Aside0.mk hr0
  have HC0 := Aside0.mk hc0
  clear hr0 hc0
  have HB := Aside0.mk (Below.refl w.heap.size w)
  have H : (gauge_Tool_bool.l0 k ([] : List Bool) l0 (l0.length : Int) 0) = some (r1, r2) := h
  clear h
  have H' := Aside0.mk H
  clear H
  go_enter Tryd.func88, Tryd.ntmps88
  go_wp2
  go_loopg [6, 13] k (fun kq v6 v13 w' => ∃ (x6_1 : List Bool) (x13_1 : Int), v13 = .int .i64 x13_1 ∧ Aside0 (gauge_Tool_bool.l0 kq x6_1 l0 (l0.length : Int) x13_1 = some (r1, r2)) ∧ Aside0 (kq ≤ k) ∧ Aside0 (Kd.R Kd.bool 4 w' w.heap.size (fun _ => True) v6 x6_1) ∧ Aside0 (Below w.heap.size w w'))
  case atStart => exact ⟨(([] : List Bool)), (0), (by first | rfl | (simp; done) | (simp [*]; done)), H', ⟨Nat.le_refl _⟩, ⟨by first | exact Kd.R_nil _ _ _ _ _ | exact Kd.N_nil _ _ _ _ _ | exact Kd.V_nil _ _ _ _ _ | exact Kd.Q_nil _ _ _ _ _ | exact Kd.S_nil _ _ _ _ _⟩, ⟨by repeat (first | (with_reducible first | exact HB.out | apply below_alloc | apply pw_below_drewN | apply below_drew1) | exact HB.out)⟩⟩
  case round =>
    clear H'
    obtain ⟨x6_1, x13_1, rfl, HA, HK1, HO_6, HB⟩ := hrel
    cases gk with
    | zero => exact absurd HA.out (by simp [gauge_Tool_bool.l0])
    | succ k1 =>
      have H := HA.out
      clear HA
      simp only [gauge_Tool_bool.l0] at H
      by_cases c2 : x13_1 < (l0.length : Int)
      · rw [if_pos c2] at H
        have c2b0 : decide (x13_1 < (l0.length : Int)) = true := decide_eq_true c2
        clear c2
        by_cases c3 : 0 ≤ x13_1
        · rw [if_pos c3] at H
          have c3b0 : decide (0 ≤ x13_1) = true := decide_eq_true c3
          clear c3
          by_cases c4 : x13_1 < (l0.length : Int)
          · rw [if_pos c4] at H
            have c4b0 : decide (x13_1 < (l0.length : Int)) = true := decide_eq_true c4
            clear c4
            replace H := Option.bind_eq_some_iff.mp H
            obtain ⟨⟨t163, t164⟩, A50, H⟩ := H
            replace H : (if t164 = 0 then (if x6_1.length < 140737488355328 then (gauge_Tool_bool.l0 k1 (x6_1 ++ [t163]) l0 (l0.length : Int) (wrap64 (x13_1 + 1))) else (none)) else (some (([] : List Bool), t164))) = some (r1, r2) := H
            have A5 := Aside0.mk A50
            clear A50
            by_cases c6 : t164 = 0
            · rw [if_pos c6] at H
              have c6b0 : (t164 == 0) = true := beq_iff_eq.mpr c6
              have c6b1 : (t164 != 0) = false := bne_eq_false_iff_eq.mpr c6
              clear c6
              by_cases c7 : x6_1.length < 140737488355328
              · rw [if_pos c7] at H
                have LMc7 := Aside0.mk c7
                clear c7
                obtain ⟨y165, hy165⟩ : ∃ y_ : List Bool, y_ = (x6_1 ++ [t163]) := ⟨_, rfl⟩
                replace H : (gauge_Tool_bool.l0 k1 y165 l0 (l0.length : Int) (wrap64 (x13_1 + 1))) = some (r1, r2) := by first | (rw [hy165]; with_reducible exact H) | (have H2_ := (Option.bind_some _ _).symm.trans H; rw [hy165]; with_reducible exact H2_) | (have H2_ := (Option.bind_some _ _).symm.trans H; with_reducible exact H2_) | with_reducible exact H | (rw [hy165]; exact H) | exact H
                have Ny165 := Aside0.mk hy165
                clear hy165
                have H' := Aside0.mk H
                clear H
                have p161 : 0 ≤ (x13_1 : Int) := of_decide_eq_true (by first | (with_reducible assumption) | assumption)
                have q161 : x13_1 < (l0.length : Int) := of_decide_eq_true (by first | (with_reducible assumption) | assumption)
                obtain ⟨ad161, e161, hx161_0, hx161_1, hx161_2, hx161_3⟩ := at_T56 HR0.out x13_1 p161 q161
                cases e161
                replace hx161_0 := (HB.out.cell (World.block_lt_of_cell? w _ hx161_0)).trans hx161_0
                replace hx161_1 := (HB.out.cell (World.block_lt_of_cell? w _ hx161_1)).trans hx161_1
                replace hx161_2 := (HB.out.cell (World.block_lt_of_cell? w _ hx161_2)).trans hx161_2
                replace hx161_3 := (HB.out.cell (World.block_lt_of_cell? w _ hx161_3)).trans hx161_3
                replace p161 := eq_true p161
                replace q161 := eq_true q161
                go_wp2_with (first | ((with_reducible refine gate_dst (N := 8) rfl ?_); refine box_event ?hg (N := 8) ?hd (cs := #[.int .i64 0, .int .i64 0, .bool false, .int .i64 0]) (t := 56) ?hr ?_; (case hd => rfl); (case hg => rfl); (case hr => first | (go_simp; done) | (go_simp; rfl)); intro gb162 hg w8 hbox hb; have n0_ := Aside0.mk (Kd.R_below (by (with_reducible repeat (first | apply Kd.R_alloc | apply Kd.R_drewN | apply Kd.R_drew)); exact HO_6.out) hb); have n1_ := Aside0.mk (below_step (by repeat (first | (with_reducible first | exact HB.out | apply below_alloc | apply pw_below_drewN | apply below_drew1) | exact HB.out)) hb); have n2_ := Aside0.mk (hbox); have n3_ := Aside0.mk ((by rw [hg]; exact (below_size (by repeat (first | (with_reducible first | exact HB.out | apply below_alloc | apply pw_below_drewN | apply below_drew1) | exact HB.out))) : w.heap.size ≤ gb162)); have n4_ := Aside0.mk ((by rw [hg]; exact (below_size (by repeat (first | (with_reducible first | exact HB.out | apply below_alloc | apply pw_below_drewN | apply below_drew1) | exact HB.out))) : w.heap.size ≤ gb162)); clear HO_6; clear HB; have HO_6 := n0_; have HB := n1_; have BK162 := n2_; have GW162 := n3_; have GE162 := n4_; clear n0_ n1_ n2_ n3_ n4_; clear hb hbox hg; have hcz9_0 : w8.cell? ⟨gb162, 0, none⟩ = some (.int .i64 0) := (blk_cell BK162.out 0).trans rfl; have hcz9_1 : w8.cell? ⟨gb162, 1, none⟩ = some (.int .i64 0) := (blk_cell BK162.out 1).trans rfl; have hcz9_2 : w8.cell? ⟨gb162, 2, none⟩ = some (.bool false) := (blk_cell BK162.out 2).trans rfl; have hcz9_3 : w8.cell? ⟨gb162, 3, none⟩ = some (.int .i64 0) := (blk_cell BK162.out 3).trans rfl; have hfz9_0 := blk_frozen BK162.out 0; have hfz9_1 := blk_frozen BK162.out 1; have hfz9_2 := blk_frozen BK162.out 2; have hfz9_3 := blk_frozen BK162.out 3) | (go_at_call 89; (with_reducible refine (gauge_Worn_1.calls x13_1 ((rd_T56 l0 x13_1).f0.f0) ((rd_T56 l0 x13_1).f0.f1) ((rd_T56 l0 x13_1).f1) ((rd_T56 l0 x13_1).f2) t163 t164 _ A5.out (by exact cap89_below HS.out (by repeat (first | (with_reducible first | exact HB.out | apply below_alloc | apply pw_below_drewN | apply below_drew1 | refine below_set ?_ GE162.out) | exact HB.out)))).mono ?_); rintro e w10 ⟨rfl, hb⟩; skip; have n0_ := Aside0.mk (Kd.R_below (by (with_reducible repeat (first | apply Kd.R_alloc | apply Kd.R_drewN | apply Kd.R_drew)); exact (Kd.R_mono (Kd.R_far (p := ⟨gb162, 3, none⟩) (Kd.R_far (p := ⟨gb162, 2, none⟩) (Kd.R_far (p := ⟨gb162, 1, none⟩) (Kd.R_far (p := ⟨gb162, 0, none⟩) (Kd.R_types HO_6.out BK162.out (by decide)) (fun _ hk => hk.2) (.int .i64 ((rd_T56 l0 x13_1).f0.f0))) (fun _ hk => hk.2) (.int .i64 ((rd_T56 l0 x13_1).f0.f1))) (fun _ hk => hk.2) (.bool ((rd_T56 l0 x13_1).f1))) (fun _ hk => hk.2) (.int .i64 ((rd_T56 l0 x13_1).f2))) (fun _ h_ => h_.1))) hb); have n1_ := Aside0.mk (blk_below (g := gb162) (o := .cells #[.int .i64 ((rd_T56 l0 x13_1).f0.f0), .int .i64 ((rd_T56 l0 x13_1).f0.f1), .bool ((rd_T56 l0 x13_1).f1), .int .i64 ((rd_T56 l0 x13_1).f2)] 56 (0, 0)) (by (with_reducible repeat (first | refine blk_drewN ?_ _ | refine blk_drew ?_ | refine blk_alloc ?_ _)); refine blk_put (cs := #[.int .i64 ((rd_T56 l0 x13_1).f0.f0), .int .i64 ((rd_T56 l0 x13_1).f0.f1), .bool ((rd_T56 l0 x13_1).f1), .int .i64 0]) ?_ 3 _ rfl; (with_reducible repeat (first | refine blk_drewN ?_ _ | refine blk_drew ?_ | refine blk_alloc ?_ _)); refine blk_put (cs := #[.int .i64 ((rd_T56 l0 x13_1).f0.f0), .int .i64 ((rd_T56 l0 x13_1).f0.f1), .bool false, .int .i64 0]) ?_ 2 _ rfl; (with_reducible repeat (first | refine blk_drewN ?_ _ | refine blk_drew ?_ | refine blk_alloc ?_ _)); refine blk_put (cs := #[.int .i64 ((rd_T56 l0 x13_1).f0.f0), .int .i64 0, .bool false, .int .i64 0]) ?_ 1 _ rfl; (with_reducible repeat (first | refine blk_drewN ?_ _ | refine blk_drew ?_ | refine blk_alloc ?_ _)); refine blk_put (cs := #[.int .i64 0, .int .i64 0, .bool false, .int .i64 0]) ?_ 0 _ rfl; (with_reducible repeat (first | refine blk_drewN ?_ _ | refine blk_drew ?_ | refine blk_alloc ?_ _)); exact BK162.out) hb); have n2_ := Aside0.mk (below_step (by repeat (first | (with_reducible first | exact HB.out | apply below_alloc | apply pw_below_drewN | apply below_drew1 | refine below_set ?_ GE162.out) | exact HB.out)) hb); clear HO_6; clear BK162; clear HB; have HO_6 := n0_; have BK162 := n1_; have HB := n2_; clear n0_ n1_ n2_; (try clear hb); (try clear hb2); (try clear hk); (try clear hi)) | ((with_reducible refine gate_builtin (b := .append) (xs := #[.tmp 28, .tmp 30]) rfl ?_); at_builtin; refine Kd.R_append Kd.bool (w0 := w) w.heap.size rfl (.tmp 28) (.tmp 30) 51 4 (.bool false) 1 rfl Tryd.underlying51 info4 rfl (by decide) (by omega) u6 x6_1 t163 [.bool t163] (fun _ => True) (fun _ => False) rfl rfl ?aP (fun _ hk => hk.elim) ?aF ?aO ?aB ?aS ?aL ?_; (case aP => exact rfl); (case aB => exact (by repeat (first | (with_reducible first | exact HB.out | apply below_alloc | apply pw_below_drewN | apply below_drew1 | refine below_set ?_ GE162.out) | exact HB.out))); (case aF => exact (fun _ _ => trivial)); (case aO => exact (by (with_reducible repeat (first | apply Kd.R_alloc | apply Kd.R_drewN | apply Kd.R_drew)); exact HO_6.out)); (case aS => exact (below_size (by repeat (first | (with_reducible first | exact HB.out | apply below_alloc | apply pw_below_drewN | apply below_drew1 | refine below_set ?_ GE162.out) | exact HB.out)))); (case aL => have := LMc7.out; omega); intro v166 w11 ho hb hg hat; rw [← Ny165.out] at ho; have n0_ := Aside0.mk (blk_grown (g := gb162) (o := .cells #[.int .i64 ((rd_T56 l0 x13_1).f0.f0), .int .i64 ((rd_T56 l0 x13_1).f0.f1), .bool ((rd_T56 l0 x13_1).f1), .int .i64 ((rd_T56 l0 x13_1).f2)] 56 (0, 0)) (by (with_reducible repeat (first | refine blk_drewN ?_ _ | refine blk_drew ?_ | refine blk_alloc ?_ _)); exact BK162.out) hg (Kd.R_ne HO_6.out BK162.out (by decide))); have n1_ := Aside0.mk (hb); have n2_ := Aside0.mk (ho); clear BK162; clear HB; clear HO_6; have BK162 := n0_; have HB := n1_; have HO167 := n2_; clear n0_ n1_ n2_; clear ho hb hg hat))
                go_roundg k1
                case measure => have := HK1.out; omega
                case rel => exact ⟨(y165), (wrap64 (x13_1 + 1)), (by first | rfl | (simp; done) | (simp [*]; done)), H', ⟨by have := HK1.out; omega⟩, ⟨by (with_reducible repeat (first | apply Kd.R_alloc | apply Kd.R_drewN | apply Kd.R_drew)); exact HO167.out⟩, ⟨by repeat (first | (with_reducible first | exact HB.out | apply below_alloc | apply pw_below_drewN | apply below_drew1 | refine below_set ?_ GE162.out) | exact HB.out)⟩⟩
              · rw [if_neg c7] at H
                exact absurd H (by simp)
            · rw [if_neg c6] at H
              have c6b0 : (t164 == 0) = false := beq_eq_false_iff_ne.mpr c6
              have c6b1 : (t164 != 0) = true := bne_iff_ne.mpr c6
              simp only [Option.some.injEq, Prod.mk.injEq] at H
              obtain ⟨rfl, rfl⟩ := H
              have p161 : 0 ≤ (x13_1 : Int) := of_decide_eq_true (by first | (with_reducible assumption) | assumption)
              have q161 : x13_1 < (l0.length : Int) := of_decide_eq_true (by first | (with_reducible assumption) | assumption)
              obtain ⟨ad161, e161, hx161_0, hx161_1, hx161_2, hx161_3⟩ := at_T56 HR0.out x13_1 p161 q161
              cases e161
              replace hx161_0 := (HB.out.cell (World.block_lt_of_cell? w _ hx161_0)).trans hx161_0
              replace hx161_1 := (HB.out.cell (World.block_lt_of_cell? w _ hx161_1)).trans hx161_1
              replace hx161_2 := (HB.out.cell (World.block_lt_of_cell? w _ hx161_2)).trans hx161_2
              replace hx161_3 := (HB.out.cell (World.block_lt_of_cell? w _ hx161_3)).trans hx161_3
              replace p161 := eq_true p161
              replace q161 := eq_true q161
              go_wp2_with (first | ((with_reducible refine gate_dst (N := 8) rfl ?_); refine box_event ?hg (N := 8) ?hd (cs := #[.int .i64 0, .int .i64 0, .bool false, .int .i64 0]) (t := 56) ?hr ?_; (case hd => rfl); (case hg => rfl); (case hr => first | (go_simp; done) | (go_simp; rfl)); intro gb162 hg w12 hbox hb; have n0_ := Aside0.mk (Kd.R_below (by (with_reducible repeat (first | apply Kd.R_alloc | apply Kd.R_drewN | apply Kd.R_drew)); exact HO_6.out) hb); have n1_ := Aside0.mk (below_step (by repeat (first | (with_reducible first | exact HB.out | apply below_alloc | apply pw_below_drewN | apply below_drew1) | exact HB.out)) hb); have n2_ := Aside0.mk (hbox); have n3_ := Aside0.mk ((by rw [hg]; exact (below_size (by repeat (first | (with_reducible first | exact HB.out | apply below_alloc | apply pw_below_drewN | apply below_drew1) | exact HB.out))) : w.heap.size ≤ gb162)); have n4_ := Aside0.mk ((by rw [hg]; exact (below_size (by repeat (first | (with_reducible first | exact HB.out | apply below_alloc | apply pw_below_drewN | apply below_drew1) | exact HB.out))) : w.heap.size ≤ gb162)); clear HO_6; clear HB; have HO_6 := n0_; have HB := n1_; have BK162 := n2_; have GW162 := n3_; have GE162 := n4_; clear n0_ n1_ n2_ n3_ n4_; clear hb hbox hg; have hcz13_0 : w12.cell? ⟨gb162, 0, none⟩ = some (.int .i64 0) := (blk_cell BK162.out 0).trans rfl; have hcz13_1 : w12.cell? ⟨gb162, 1, none⟩ = some (.int .i64 0) := (blk_cell BK162.out 1).trans rfl; have hcz13_2 : w12.cell? ⟨gb162, 2, none⟩ = some (.bool false) := (blk_cell BK162.out 2).trans rfl; have hcz13_3 : w12.cell? ⟨gb162, 3, none⟩ = some (.int .i64 0) := (blk_cell BK162.out 3).trans rfl; have hfz13_0 := blk_frozen BK162.out 0; have hfz13_1 := blk_frozen BK162.out 1; have hfz13_2 := blk_frozen BK162.out 2; have hfz13_3 := blk_frozen BK162.out 3) | (go_at_call 89; (with_reducible refine (gauge_Worn_1.calls x13_1 ((rd_T56 l0 x13_1).f0.f0) ((rd_T56 l0 x13_1).f0.f1) ((rd_T56 l0 x13_1).f1) ((rd_T56 l0 x13_1).f2) t163 t164 _ A5.out (by exact cap89_below HS.out (by repeat (first | (with_reducible first | exact HB.out | apply below_alloc | apply pw_below_drewN | apply below_drew1 | refine below_set ?_ GE162.out) | exact HB.out)))).mono ?_); rintro e w14 ⟨rfl, hb⟩; skip; have n0_ := Aside0.mk (Kd.R_below (by (with_reducible repeat (first | apply Kd.R_alloc | apply Kd.R_drewN | apply Kd.R_drew)); exact (Kd.R_mono (Kd.R_far (p := ⟨gb162, 3, none⟩) (Kd.R_far (p := ⟨gb162, 2, none⟩) (Kd.R_far (p := ⟨gb162, 1, none⟩) (Kd.R_far (p := ⟨gb162, 0, none⟩) (Kd.R_types HO_6.out BK162.out (by decide)) (fun _ hk => hk.2) (.int .i64 ((rd_T56 l0 x13_1).f0.f0))) (fun _ hk => hk.2) (.int .i64 ((rd_T56 l0 x13_1).f0.f1))) (fun _ hk => hk.2) (.bool ((rd_T56 l0 x13_1).f1))) (fun _ hk => hk.2) (.int .i64 ((rd_T56 l0 x13_1).f2))) (fun _ h_ => h_.1))) hb); have n1_ := Aside0.mk (blk_below (g := gb162) (o := .cells #[.int .i64 ((rd_T56 l0 x13_1).f0.f0), .int .i64 ((rd_T56 l0 x13_1).f0.f1), .bool ((rd_T56 l0 x13_1).f1), .int .i64 ((rd_T56 l0 x13_1).f2)] 56 (0, 0)) (by (with_reducible repeat (first | refine blk_drewN ?_ _ | refine blk_drew ?_ | refine blk_alloc ?_ _)); refine blk_put (cs := #[.int .i64 ((rd_T56 l0 x13_1).f0.f0), .int .i64 ((rd_T56 l0 x13_1).f0.f1), .bool ((rd_T56 l0 x13_1).f1), .int .i64 0]) ?_ 3 _ rfl; (with_reducible repeat (first | refine blk_drewN ?_ _ | refine blk_drew ?_ | refine blk_alloc ?_ _)); refine blk_put (cs := #[.int .i64 ((rd_T56 l0 x13_1).f0.f0), .int .i64 ((rd_T56 l0 x13_1).f0.f1), .bool false, .int .i64 0]) ?_ 2 _ rfl; (with_reducible repeat (first | refine blk_drewN ?_ _ | refine blk_drew ?_ | refine blk_alloc ?_ _)); refine blk_put (cs := #[.int .i64 ((rd_T56 l0 x13_1).f0.f0), .int .i64 0, .bool false, .int .i64 0]) ?_ 1 _ rfl; (with_reducible repeat (first | refine blk_drewN ?_ _ | refine blk_drew ?_ | refine blk_alloc ?_ _)); refine blk_put (cs := #[.int .i64 0, .int .i64 0, .bool false, .int .i64 0]) ?_ 0 _ rfl; (with_reducible repeat (first | refine blk_drewN ?_ _ | refine blk_drew ?_ | refine blk_alloc ?_ _)); exact BK162.out) hb); have n2_ := Aside0.mk (below_step (by repeat (first | (with_reducible first | exact HB.out | apply below_alloc | apply pw_below_drewN | apply below_drew1 | refine below_set ?_ GE162.out) | exact HB.out)) hb); clear HO_6; clear BK162; clear HB; have HO_6 := n0_; have BK162 := n1_; have HB := n2_; clear n0_ n1_ n2_; (try clear hb); (try clear hb2); (try clear hk); (try clear hi)))
              go_ret2
              exact ⟨_, by first | rfl | (simp [errW_none, errW_some] <;> rfl) | (simp [*, errW_none, errW_some] <;> rfl), by first | exact Kd.R_nil _ _ _ _ _ | exact Kd.N_nil _ _ _ _ _ | exact Kd.V_nil _ _ _ _ _ | exact Kd.Q_nil _ _ _ _ _ | exact Kd.S_nil _ _ _ _ _, by repeat (first | (with_reducible first | exact HB.out | apply below_alloc | apply pw_below_drewN | apply below_drew1 | refine below_set ?_ GE162.out) | exact HB.out)⟩
          · rw [if_neg c4] at H
            exact absurd H (by simp)
        · rw [if_neg c3] at H
          exact absurd H (by simp)
      · rw [if_neg c2] at H
        have c2b0 : decide (x13_1 < (l0.length : Int)) = false := decide_eq_false c2
        clear c2
        simp only [Option.some.injEq, Prod.mk.injEq] at H
        obtain ⟨rfl, rfl⟩ := H
        go_wp2
        go_ret2
        exact ⟨_, by first | rfl | (simp [errW_none, errW_some] <;> rfl) | (simp [*, errW_none, errW_some] <;> rfl), by (with_reducible repeat (first | apply Kd.R_alloc | apply Kd.R_drewN | apply Kd.R_drew)); exact HO_6.out, by repeat (first | (with_reducible first | exact HB.out | apply below_alloc | apply pw_below_drewN | apply below_drew1) | exact HB.out)⟩
end
end Go.Proofs.YtjemaonejkepcaaDoor.G
namespace Go.Proofs.YtjemaonejkepcaaDoor.G
open Go.Proofs.YtjemaonejkepcaaDoor.B
open Go.RowKit Go.Proofs.YtjemaonejkepcaaDoorW.PrintWords Go.Proofs.YtjemaonejkepcaaDoorW.PrintLast Go.Proofs.YtjemaonejkepcaaDoorW.PrintMore
attribute [local go_sem] max2_int min2_int max_two min_two max_three min_three max_four min_four   -- for this text's walks alone
set_option linter.unusedVariables false
set_option linter.unusedSimpArgs false
theorem gauge_Worn.tool (tg : List (S27)) (sz : List Int) (gl gs : Nat) (A : Option Addr) (c : Nat) (B : Option Addr) (d : Nat) (k : Nat) (A1 : Option Addr) (c1 : Nat) (l1 : List (S56)) (r1 : List Bool) (r2 : Int) (w : World) (hr1 : Kd.C k56 w A1 l1.length l1) (hc1 : l1.length ≤ c1) (h : @gauge_Tool_bool.f (Dat89.mk tg sz) k l1 = some (r1, r2)) (hl : w.heap[gl]? = some (.cells #[.slice A tg.length c] 42 (0, 0))) (hs : w.heap[gs]? = some (.cells #[.slice B sz.length d] 58 (0, 0))) (hC : Kd.C k27 w A tg.length tg) (hD : Kd.C (Kd.int .i64) w B sz.length sz) :
    Calls Tryd.prog 88 #[.slice A1 l1.length c1, .func (.func 89) #[] #[.pointer (some ⟨gl, 0, none⟩), .pointer (some ⟨gs, 0, none⟩)]] w fun e w' => ∃ v0_ : Value, e = .returned (.tuple #[v0_, .int .i64 r2]) ∧ Kd.R Kd.bool 4 w' w.heap.size (fun _ => True) v0_ r1 ∧ Below w.heap.size w w' :=
  @gauge_Tool_bool.calls (Dat89.mk tg sz) (Adr89.mk gl gs A c B d) k A1 c1 l1 r1 r2 w hr1 hc1 h ⟨hl, hs, hC, hD⟩
def gauge_Worn.l0 : Nat → List Int → List Bool → Int → Int → Option (List Int × Int)
  | 0, _, _, _, _ => none
  | k + 1, out, l, n, i => if i < n then (if 0 ≤ i then (if i < (l.length : Int) then (if (rdOf false l i) = true then (if out.length < 17592186044416 then gauge_Worn.l0 k (out ++ [i]) l n (wrap64 (i + 1)) else none) else gauge_Worn.l0 k out l n (wrap64 (i + 1))) else none) else none) else some (out, 0)
def gauge_Worn.f (k : Nat) (l0 : List (S27)) (l1 : List (S56)) : Option (List Int × Int) := (gauge_virtual.f k l0).bind fun b => if b.2 = 0 then (if (l1.length : Int) = (l0.length : Int) then ((@gauge_Tool_bool.f (Dat89.mk l0 b.1) k l1).bind fun c => if c.2 = 0 then gauge_Worn.l0 k ([] : List Int) c.1 (c.1.length : Int) 0 else some (([] : List Int), c.2)) else some (([] : List Int), 8)) else some (([] : List Int), b.2)
theorem gauge_Worn.mono_l : ∀ k, (∀ y0 y1 y2 y3, LeO (gauge_Worn.l0 k y0 y1 y2 y3) (gauge_Worn.l0 (k + 1) y0 y1 y2 y3))
  | 0 => fun _ _ _ _ r h => by simp [gauge_Worn.l0] at h
  | k + 1 => by
      have ih0 := gauge_Worn.mono_l k
      intro y0 y1 y2 y3
      unfold gauge_Worn.l0
      repeat' first
        | (with_reducible exact ih0 _ _ _)
        | (with_reducible exact ih0 _ _ _ _)
        | (with_reducible exact LeO.refl _)
        | (with_reducible exact LeO.none _)
        | (with_reducible refine LeO.ite ?_ ?_)
        | (with_reducible refine LeO.bind ?_ (fun _ => ?_))
theorem gauge_Worn.mono : ∀ a0 a1 k, LeO (gauge_Worn.f k a0 a1) (gauge_Worn.f (k + 1) a0 a1) := by
  intro a0 a1 k
  have ih0 := gauge_Worn.mono_l k
  unfold gauge_Worn.f
  exact LeO.bind (gauge_virtual.mono _ _) (fun b => LeO.ite (LeO.ite (LeO.bind (@gauge_Tool_bool.mono (Dat89.mk a0 b.1) _ _) (fun c => LeO.ite (ih0 _ _ _ _) (LeO.refl _))) (LeO.refl _)) (LeO.refl _))
set_option maxHeartbeats 8000000 in
set_option maxRecDepth 100000 in
theorem gauge_Worn.calls (k : Nat) (A0 : Option Addr) (c0 : Nat) (l0 : List (S27)) (A1 : Option Addr) (c1 : Nat) (l1 : List (S56)) (r1 : List Int) (r2 : Int) (w : World) (hr0 : Kd.C k27 w A0 l0.length l0) (hc0 : l0.length ≤ c0) (hr1 : Kd.C k56 w A1 l1.length l1) (hc1 : l1.length ≤ c1) (h : gauge_Worn.f k l0 l1 = some (r1, r2)) (hS : SignsAt w) :
    Calls Tryd.prog 36 #[.slice A0 l0.length c0, .slice A1 l1.length c1] w fun e w' => ∃ v0_ : Value, e = .returned (.tuple #[v0_, .int .i64 r2]) ∧ Kd.R (Kd.int .i64) 3 w' w.heap.size (fun _ => True) v0_ r1 ∧ Below w.heap.size w w' := by
  have HR0 := Aside0.mk hr0
  have HC0 := Aside0.mk hc0
  have HR1 := Aside0.mk hr1
  have HC1 := Aside0.mk hc1
  have HS := Aside0.mk hS
  have HB := Aside0.mk (Below.refl w.heap.size w)
  clear hr0 hc0 hr1 hc1 hS
  skip
  obtain ⟨⟨sz, t⟩, A30, H⟩ := Option.bind_eq_some_iff.mp h
  replace H : (if t = 0 then (if (l1.length : Int) = (l0.length : Int) then ((@gauge_Tool_bool.f (Dat89.mk l0 sz) k l1).bind fun c => if c.2 = 0 then gauge_Worn.l0 k ([] : List Int) c.1 (c.1.length : Int) 0 else some (([] : List Int), c.2)) else some (([] : List Int), 8)) else some (([] : List Int), t)) = some (r1, r2) := H
  clear h
  have A3 := Aside0.mk A30
  clear A30
  by_cases c4 : t = 0
  · rw [if_pos c4] at H
    have c4b1 : (t != 0) = false := bne_eq_false_iff_eq.mpr c4
    clear c4
    by_cases c5 : (l1.length : Int) = (l0.length : Int)
    · rw [if_pos c5] at H
      have c5b1 : ((l1.length : Int) != (l0.length : Int)) = false := bne_eq_false_iff_eq.mpr c5
      clear c5
      obtain ⟨⟨q1, q2⟩, A60, H⟩ := Option.bind_eq_some_iff.mp H
      replace H : (if q2 = 0 then gauge_Worn.l0 k ([] : List Int) q1 (q1.length : Int) 0 else some (([] : List Int), q2)) = some (r1, r2) := H
      have A6 := Aside0.mk A60
      clear A60
      by_cases c7 : q2 = 0
      · rw [if_pos c7] at H
        have c7b1 : (q2 != 0) = false := bne_eq_false_iff_eq.mpr c7
        clear c7
        have H' := Aside0.mk H
        clear H
        go_enter Tryd.func36, Tryd.ntmps36
        go_upto_region 2 with (first
          | ((with_reducible refine gate_dst (N := 2) rfl ?_); refine box_event ?hg (N := 2) ?hd (cs := #[.slice A0 l0.length c0]) (t := 42) ?hr ?_; (case hd => rfl); (case hg => rfl); (case hr => first | (go_simp; done) | (go_simp; rfl)); intro g2 hg wg2 hbox hb; have m0_ := Aside0.mk (by rw [hg]; exact below_size (by repeat (first | (with_reducible first | exact HB.out | apply below_alloc | apply pw_below_drewN | apply below_drew1) | exact HB.out)) : w.heap.size ≤ g2); have m1_ := Aside0.mk (below_step (by repeat (first | (with_reducible first | exact HB.out | apply below_alloc | apply pw_below_drewN | apply below_drew1) | exact HB.out)) hb); clear HB ; have HB := m1_; have GEg2 := m0_; have B2 := Aside0.mk hbox; clear hg hbox hb; have f2 : wg2.cell? ⟨g2, 0, none⟩ = some (.slice A0 l0.length c0) := (blk_cell B2.out 0).trans rfl)
          | ((with_reducible refine gate_callee (f := 80) rfl ?_); refine goesL_ (some 14) rfl rfl Tryd.func80 (by kernel_rfl) rfl #[.slice A0 l0.length c0] rfl (by (try simp only [List.map_toArray, List.map_cons, List.map_nil]); first | done | rfl | (simp only [List.length_drop, List.length_take]; rfl)) ?_; (with_reducible refine (gauge_virtual.calls k _ _ l0 sz t _ ?side1 ?side2 A3.out (by exact sig_below HS.out (by repeat (first | (with_reducible first | exact HB.out | apply below_alloc | apply pw_below_drewN | apply below_drew1) | exact HB.out)))).mono ?_); (case side1 => repeat (first | exact (Kd.C_below HR0.out HB.out) | (with_reducible refine Kd.C_alloc ?_ _) | (with_reducible refine Kd.C_drewN ?_ _) | (with_reducible refine Kd.C_drew ?_))); (case side2 => exact HC0.out); rintro e w6 ⟨v114, rfl, ho0, hb⟩; refine ⟨_, rfl, ?_⟩; have o0_ := Aside0.mk (blk_below B2.out hb); have n0_ := Aside0.mk (Kd.R_lower ho0 (below_size (by repeat (first | (with_reducible first | exact HB.out | apply below_alloc | apply pw_below_drewN | apply below_drew1) | exact HB.out)))); have n1_ := Aside0.mk (below_step (by repeat (first | (with_reducible first | exact HB.out | apply below_alloc | apply pw_below_drewN | apply below_drew1) | exact HB.out)) hb); clear HB B2; have HO := n0_; have HB := n1_; have B2 := o0_; clear n0_ n1_ hb ho0; obtain ⟨Ao, co, eo⟩ := Kd.R_slice HO.out; subst eo)
          | ((with_reducible refine gate_dst (N := 6) rfl ?_); refine box_event ?hg (N := 6) ?hd (cs := #[.slice none 0 0]) (t := 58) ?hr ?_; (case hd => rfl); (case hg => rfl); (case hr => first | (go_simp; done) | (go_simp; rfl)); intro g6 hg wg6 hbox hb; have m0_ := Aside0.mk (by rw [hg]; exact below_size (by repeat (first | (with_reducible first | exact HB.out | apply below_alloc | apply pw_below_drewN | apply below_drew1) | exact HB.out)) : w.heap.size ≤ g6); have m1_ := Aside0.mk (below_step (by repeat (first | (with_reducible first | exact HB.out | apply below_alloc | apply pw_below_drewN | apply below_drew1) | exact HB.out)) hb); have o0_ := Aside0.mk (blk_below B2.out hb); have q0_ := Aside0.mk (by rw [hg]; exact Nat.ne_of_gt (blk_lt B2.out) : g6 ≠ _); have h_ := Aside0.mk (Kd.R_below (Kd.R_elderB (by (with_reducible repeat (first | apply Kd.R_alloc | apply Kd.R_drewN | apply Kd.R_drew)); exact HO.out) g6 (Nat.le_of_eq hg.symm)) hb); clear HB B2 HO; have HB := m1_; have GEg6 := m0_; have B2 := o0_; have NE62 := q0_; have HO := h_; have B6 := Aside0.mk hbox; clear hg hbox hb; have f0 : wg6.cell? ⟨g6, 0, none⟩ = some (.slice none 0 0) := (blk_cell B6.out 0).trans rfl; have f1 := blk_frozen B6.out 0))
        have HB7 := below_set HB.out (j := 0) (v := (.slice Ao sz.length co)) GEg6.out
        have B27 := blk_far B2.out (p := ⟨g6, 0, none⟩) NE62.out.symm (.slice Ao sz.length co)
        have B67 := blk_put B6.out 0 (.slice Ao sz.length co) rfl
        have HO7 := Kd.R_mono (Kd.R_far (p := ⟨g6, 0, none⟩) HO.out (fun _ hk => hk.2) (.slice Ao sz.length co)) (ok' := fun _ => True) (fun _ _ => trivial)
        generalize wg6.setCell ⟨g6, 0, none⟩ (.slice Ao sz.length co) = w7 at HB7 B27 B67 HO7 ⊢
        clear HB B2 B6 HO f0 f1 NE62
        have HB := Aside0.mk HB7
        have B2 := Aside0.mk B27
        have B6 := Aside0.mk B67
        have HO := Aside0.mk HO7
        have m2 : w7.cell? ⟨g2, 0, none⟩ = some (.slice A0 l0.length c0) := (blk_cell B2.out 0).trans rfl
        clear HB7 B27 B67 HO7
        go_wp2_with (first | (go_at_call 88; (with_reducible refine (gauge_Worn.tool l0 sz g2 g6 A0 c0 Ao co k _ _ l1 q1 q2 _ ?side1 ?side2 A6.out ?side3 ?side4 ?side5 ?side6).mono ?_); (case side1 => repeat (first | exact (Kd.C_below HR1.out HB.out) | (with_reducible refine Kd.C_alloc ?_ _) | (with_reducible refine Kd.C_drewN ?_ _) | (with_reducible refine Kd.C_drew ?_))); (case side2 => exact HC1.out); (case side3 => exact B2.out); (case side4 => exact B6.out); (case side5 => exact (Kd.C_below HR0.out HB.out)); (case side6 => exact (Kd.R_reads' HO.out).2.2); rintro e w8 ⟨v114, rfl, ho0, hb⟩; have n0_ := Aside0.mk (Kd.R_lower ho0 (below_size (by repeat (first | (with_reducible first | exact HB.out | apply below_alloc | apply pw_below_drewN | apply below_drew1) | exact HB.out)))); have n1_ := Aside0.mk (below_step (by repeat (first | (with_reducible first | exact HB.out | apply below_alloc | apply pw_below_drewN | apply below_drew1) | exact HB.out)) hb); clear HB HO B2 B6 m2; have HO1 := n0_; have HB := n1_; clear n0_ n1_ hb ho0; obtain ⟨Ar, cr, er⟩ := Kd.R_slice HO1.out; subst er))
        have HB8 := Aside0.mk HB.out
        have HC8 := Aside0.mk (Kd.R_reads' HO1.out).2.2
        go_loopg [9, 36] k (fun kq v9 v36 w' => ∃ (xs : List Int) (i : Int), v36 = .int .i64 i ∧ Aside0 (gauge_Worn.l0 kq xs q1 (q1.length : Int) i = some (r1, r2)) ∧ Aside0 (kq ≤ k) ∧ Aside0 (Kd.R (Kd.int .i64) 3 w' w8.heap.size (fun _ => True) v9 xs) ∧ Aside0 (Below w8.heap.size w8 w'))
        case atStart => exact ⟨[], (0), (by first | rfl | (simp; done) | (simp [*]; done)), H', ⟨Nat.le_refl _⟩, ⟨Kd.R_nil _ _ _ _ _⟩, ⟨by repeat (first | exact Below.refl _ _ | apply below_alloc | apply pw_below_drewN | apply below_drew1)⟩⟩
        case round =>
          clear H' HO1 HB
          obtain ⟨xs, i, rfl, HA, HK1, HO9, HB⟩ := hrel
          cases gk with
          | zero => exact absurd HA.out (by simp [gauge_Worn.l0])
          | succ k1 =>
            have H := HA.out
            clear HA
            simp only [gauge_Worn.l0] at H
            by_cases c8 : i < (q1.length : Int)
            · rw [if_pos c8] at H
              by_cases c9 : 0 ≤ i
              · rw [if_pos c9, if_pos c8] at H
                obtain ⟨ad, e, hx0⟩ := Kd.at_bool HC8.out i c9 c8
                cases e
                replace hx0 := (HB.out.cell (World.block_lt_of_cell? w8 _ hx0)).trans hx0
                have c8b := decide_eq_true c8
                have p1 := eq_true c9
                have p2 := eq_true c8
                clear c8 c9
                cases hb : rdOf false q1 i with
                | true =>
                  rw [hb] at hx0
                  rw [hb, if_pos rfl] at H
                  clear hb
                  by_cases cl : xs.length < 17592186044416
                  · rw [if_pos cl] at H
                    have H' := Aside0.mk H
                    clear H
                    go_wp2_with (first | ((with_reducible refine gate_builtin (b := .append) (xs := #[.tmp 42, .tmp 44]) rfl ?_); at_builtin; refine Kd.R_append (Kd.int .i64) (w0 := w8) w8.heap.size rfl (.tmp 42) (.tmp 44) 58 3 (.int .i64 0) 8 rfl Tryd.underlying58 info3 rfl (by decide) (by omega) u9 xs i [.int .i64 i] (fun _ => True) (fun _ => False) rfl rfl ?aP (fun _ hk => hk.elim) ?aF ?aO ?aB ?aS ?aL ?_; (case aP => exact rfl); (case aB => exact (by repeat (first | (with_reducible first | exact HB.out | apply below_alloc | apply pw_below_drewN | apply below_drew1) | exact HB.out))); (case aF => exact (fun _ _ => trivial)); (case aO => exact (by (with_reducible repeat (first | apply Kd.R_alloc | apply Kd.R_drewN | apply Kd.R_drew)); exact HO9.out)); (case aS => exact (below_size (by repeat (first | (with_reducible first | exact HB.out | apply below_alloc | apply pw_below_drewN | apply below_drew1) | exact HB.out)))); (case aL => omega); intro v302 w25 ho hb hg hat; have n0_ := Aside0.mk (hb); have n1_ := Aside0.mk (ho); have n2_ := Aside0.mk (hat); clear HB HO9; have HB := n0_; have HO9 := n1_; have HAT := n2_; clear n0_ n1_ n2_ ho hb hg hat))
                    go_roundg k1
                    case measure => have := HK1.out; omega
                    case rel => exact ⟨(xs ++ [i]), (wrap64 (i + 1)), (by first | rfl | (simp; done) | (simp [*]; done)), H', ⟨by have := HK1.out; omega⟩, ⟨by (with_reducible repeat (first | apply Kd.R_alloc | apply Kd.R_drewN | apply Kd.R_drew)); exact HO9.out⟩, ⟨by repeat (first | (with_reducible first | exact HB.out | apply below_alloc | apply pw_below_drewN | apply below_drew1) | exact HB.out)⟩⟩
                  · rw [if_neg cl] at H
                    exact absurd H (by simp)
                | false =>
                  rw [hb] at hx0
                  rw [hb, if_neg Bool.false_ne_true] at H
                  clear hb
                  have H' := Aside0.mk H
                  clear H
                  go_wp2
                  go_roundg k1
                  case measure => have := HK1.out; omega
                  case rel => exact ⟨xs, (wrap64 (i + 1)), (by first | rfl | (simp; done) | (simp [*]; done)), H', ⟨by have := HK1.out; omega⟩, ⟨by (with_reducible repeat (first | apply Kd.R_alloc | apply Kd.R_drewN | apply Kd.R_drew)); exact HO9.out⟩, ⟨by repeat (first | (with_reducible first | exact HB.out | apply below_alloc | apply pw_below_drewN | apply below_drew1) | exact HB.out)⟩⟩
              · rw [if_neg c9] at H
                exact absurd H (by simp)
            · rw [if_neg c8] at H
              have c8b := decide_eq_false c8
              clear c8
              simp only [Option.some.injEq, Prod.mk.injEq] at H
              obtain ⟨rfl, rfl⟩ := H
              go_wp2
              go_ret2
              exact ⟨_, rfl, Kd.R_lower (by (with_reducible repeat (first | apply Kd.R_alloc | apply Kd.R_drewN | apply Kd.R_drew)); exact HO9.out) HB8.out.size, below_step HB8.out (by repeat (first | (with_reducible first | exact HB.out | apply below_alloc | apply pw_below_drewN | apply below_drew1) | exact HB.out))⟩
      · rw [if_neg c7] at H
        have c7b1 : (q2 != 0) = true := bne_iff_ne.mpr c7
        clear c7
        simp only [Option.some.injEq, Prod.mk.injEq] at H
        obtain ⟨rfl, rfl⟩ := H
        go_enter Tryd.func36, Tryd.ntmps36
        go_upto_region 2 with (first
          | ((with_reducible refine gate_dst (N := 2) rfl ?_); refine box_event ?hg (N := 2) ?hd (cs := #[.slice A0 l0.length c0]) (t := 42) ?hr ?_; (case hd => rfl); (case hg => rfl); (case hr => first | (go_simp; done) | (go_simp; rfl)); intro g2 hg wg2 hbox hb; have m0_ := Aside0.mk (by rw [hg]; exact below_size (by repeat (first | (with_reducible first | exact HB.out | apply below_alloc | apply pw_below_drewN | apply below_drew1) | exact HB.out)) : w.heap.size ≤ g2); have m1_ := Aside0.mk (below_step (by repeat (first | (with_reducible first | exact HB.out | apply below_alloc | apply pw_below_drewN | apply below_drew1) | exact HB.out)) hb); clear HB ; have HB := m1_; have GEg2 := m0_; have B2 := Aside0.mk hbox; clear hg hbox hb; have f2 : wg2.cell? ⟨g2, 0, none⟩ = some (.slice A0 l0.length c0) := (blk_cell B2.out 0).trans rfl)
          | ((with_reducible refine gate_callee (f := 80) rfl ?_); refine goesL_ (some 14) rfl rfl Tryd.func80 (by kernel_rfl) rfl #[.slice A0 l0.length c0] rfl (by (try simp only [List.map_toArray, List.map_cons, List.map_nil]); first | done | rfl | (simp only [List.length_drop, List.length_take]; rfl)) ?_; (with_reducible refine (gauge_virtual.calls k _ _ l0 sz t _ ?side1 ?side2 A3.out (by exact sig_below HS.out (by repeat (first | (with_reducible first | exact HB.out | apply below_alloc | apply pw_below_drewN | apply below_drew1) | exact HB.out)))).mono ?_); (case side1 => repeat (first | exact (Kd.C_below HR0.out HB.out) | (with_reducible refine Kd.C_alloc ?_ _) | (with_reducible refine Kd.C_drewN ?_ _) | (with_reducible refine Kd.C_drew ?_))); (case side2 => exact HC0.out); rintro e w6 ⟨v114, rfl, ho0, hb⟩; refine ⟨_, rfl, ?_⟩; have o0_ := Aside0.mk (blk_below B2.out hb); have n0_ := Aside0.mk (Kd.R_lower ho0 (below_size (by repeat (first | (with_reducible first | exact HB.out | apply below_alloc | apply pw_below_drewN | apply below_drew1) | exact HB.out)))); have n1_ := Aside0.mk (below_step (by repeat (first | (with_reducible first | exact HB.out | apply below_alloc | apply pw_below_drewN | apply below_drew1) | exact HB.out)) hb); clear HB B2; have HO := n0_; have HB := n1_; have B2 := o0_; clear n0_ n1_ hb ho0; obtain ⟨Ao, co, eo⟩ := Kd.R_slice HO.out; subst eo)
          | ((with_reducible refine gate_dst (N := 6) rfl ?_); refine box_event ?hg (N := 6) ?hd (cs := #[.slice none 0 0]) (t := 58) ?hr ?_; (case hd => rfl); (case hg => rfl); (case hr => first | (go_simp; done) | (go_simp; rfl)); intro g6 hg wg6 hbox hb; have m0_ := Aside0.mk (by rw [hg]; exact below_size (by repeat (first | (with_reducible first | exact HB.out | apply below_alloc | apply pw_below_drewN | apply below_drew1) | exact HB.out)) : w.heap.size ≤ g6); have m1_ := Aside0.mk (below_step (by repeat (first | (with_reducible first | exact HB.out | apply below_alloc | apply pw_below_drewN | apply below_drew1) | exact HB.out)) hb); have o0_ := Aside0.mk (blk_below B2.out hb); have q0_ := Aside0.mk (by rw [hg]; exact Nat.ne_of_gt (blk_lt B2.out) : g6 ≠ _); have h_ := Aside0.mk (Kd.R_below (Kd.R_elderB (by (with_reducible repeat (first | apply Kd.R_alloc | apply Kd.R_drewN | apply Kd.R_drew)); exact HO.out) g6 (Nat.le_of_eq hg.symm)) hb); clear HB B2 HO; have HB := m1_; have GEg6 := m0_; have B2 := o0_; have NE62 := q0_; have HO := h_; have B6 := Aside0.mk hbox; clear hg hbox hb; have f0 : wg6.cell? ⟨g6, 0, none⟩ = some (.slice none 0 0) := (blk_cell B6.out 0).trans rfl; have f1 := blk_frozen B6.out 0))
        have HB7 := below_set HB.out (j := 0) (v := (.slice Ao sz.length co)) GEg6.out
        have B27 := blk_far B2.out (p := ⟨g6, 0, none⟩) NE62.out.symm (.slice Ao sz.length co)
        have B67 := blk_put B6.out 0 (.slice Ao sz.length co) rfl
        have HO7 := Kd.R_mono (Kd.R_far (p := ⟨g6, 0, none⟩) HO.out (fun _ hk => hk.2) (.slice Ao sz.length co)) (ok' := fun _ => True) (fun _ _ => trivial)
        generalize wg6.setCell ⟨g6, 0, none⟩ (.slice Ao sz.length co) = w7 at HB7 B27 B67 HO7 ⊢
        clear HB B2 B6 HO f0 f1 NE62
        have HB := Aside0.mk HB7
        have B2 := Aside0.mk B27
        have B6 := Aside0.mk B67
        have HO := Aside0.mk HO7
        have m2 : w7.cell? ⟨g2, 0, none⟩ = some (.slice A0 l0.length c0) := (blk_cell B2.out 0).trans rfl
        clear HB7 B27 B67 HO7
        go_wp2_with (first | (go_at_call 88; (with_reducible refine (gauge_Worn.tool l0 sz g2 g6 A0 c0 Ao co k _ _ l1 q1 q2 _ ?side1 ?side2 A6.out ?side3 ?side4 ?side5 ?side6).mono ?_); (case side1 => repeat (first | exact (Kd.C_below HR1.out HB.out) | (with_reducible refine Kd.C_alloc ?_ _) | (with_reducible refine Kd.C_drewN ?_ _) | (with_reducible refine Kd.C_drew ?_))); (case side2 => exact HC1.out); (case side3 => exact B2.out); (case side4 => exact B6.out); (case side5 => exact (Kd.C_below HR0.out HB.out)); (case side6 => exact (Kd.R_reads' HO.out).2.2); rintro e w8 ⟨v114, rfl, ho0, hb⟩; have n0_ := Aside0.mk (Kd.R_lower ho0 (below_size (by repeat (first | (with_reducible first | exact HB.out | apply below_alloc | apply pw_below_drewN | apply below_drew1) | exact HB.out)))); have n1_ := Aside0.mk (below_step (by repeat (first | (with_reducible first | exact HB.out | apply below_alloc | apply pw_below_drewN | apply below_drew1) | exact HB.out)) hb); clear HB HO B2 B6 m2; have HO1 := n0_; have HB := n1_; clear n0_ n1_ hb ho0; obtain ⟨Ar, cr, er⟩ := Kd.R_slice HO1.out; subst er))
        go_ret2
        exact ⟨_, by first | rfl | (simp [errW_none, errW_some] <;> rfl) | (simp [*, errW_none, errW_some] <;> rfl), by first | exact Kd.R_nil _ _ _ _ _, by repeat (first | (with_reducible first | exact HB.out | apply below_alloc | apply pw_below_drewN | apply below_drew1) | exact HB.out)⟩
    · rw [if_neg c5] at H
      have c5b1 : ((l1.length : Int) != (l0.length : Int)) = true := bne_iff_ne.mpr c5
      clear c5
      simp only [Option.some.injEq, Prod.mk.injEq] at H
      obtain ⟨rfl, rfl⟩ := H
      go_enter Tryd.func36, Tryd.ntmps36
      go_upto_region 2 with (first
        | ((with_reducible refine gate_dst (N := 2) rfl ?_); refine box_event ?hg (N := 2) ?hd (cs := #[.slice A0 l0.length c0]) (t := 42) ?hr ?_; (case hd => rfl); (case hg => rfl); (case hr => first | (go_simp; done) | (go_simp; rfl)); intro g2 hg wg2 hbox hb; have m0_ := Aside0.mk (by rw [hg]; exact below_size (by repeat (first | (with_reducible first | exact HB.out | apply below_alloc | apply pw_below_drewN | apply below_drew1) | exact HB.out)) : w.heap.size ≤ g2); have m1_ := Aside0.mk (below_step (by repeat (first | (with_reducible first | exact HB.out | apply below_alloc | apply pw_below_drewN | apply below_drew1) | exact HB.out)) hb); clear HB ; have HB := m1_; have GEg2 := m0_; have B2 := Aside0.mk hbox; clear hg hbox hb; have f2 : wg2.cell? ⟨g2, 0, none⟩ = some (.slice A0 l0.length c0) := (blk_cell B2.out 0).trans rfl)
        | ((with_reducible refine gate_callee (f := 80) rfl ?_); refine goesL_ (some 14) rfl rfl Tryd.func80 (by kernel_rfl) rfl #[.slice A0 l0.length c0] rfl (by (try simp only [List.map_toArray, List.map_cons, List.map_nil]); first | done | rfl | (simp only [List.length_drop, List.length_take]; rfl)) ?_; (with_reducible refine (gauge_virtual.calls k _ _ l0 sz t _ ?side1 ?side2 A3.out (by exact sig_below HS.out (by repeat (first | (with_reducible first | exact HB.out | apply below_alloc | apply pw_below_drewN | apply below_drew1) | exact HB.out)))).mono ?_); (case side1 => repeat (first | exact (Kd.C_below HR0.out HB.out) | (with_reducible refine Kd.C_alloc ?_ _) | (with_reducible refine Kd.C_drewN ?_ _) | (with_reducible refine Kd.C_drew ?_))); (case side2 => exact HC0.out); rintro e w6 ⟨v114, rfl, ho0, hb⟩; refine ⟨_, rfl, ?_⟩; have o0_ := Aside0.mk (blk_below B2.out hb); have n0_ := Aside0.mk (Kd.R_lower ho0 (below_size (by repeat (first | (with_reducible first | exact HB.out | apply below_alloc | apply pw_below_drewN | apply below_drew1) | exact HB.out)))); have n1_ := Aside0.mk (below_step (by repeat (first | (with_reducible first | exact HB.out | apply below_alloc | apply pw_below_drewN | apply below_drew1) | exact HB.out)) hb); clear HB B2; have HO := n0_; have HB := n1_; have B2 := o0_; clear n0_ n1_ hb ho0; obtain ⟨Ao, co, eo⟩ := Kd.R_slice HO.out; subst eo)
        | ((with_reducible refine gate_dst (N := 6) rfl ?_); refine box_event ?hg (N := 6) ?hd (cs := #[.slice none 0 0]) (t := 58) ?hr ?_; (case hd => rfl); (case hg => rfl); (case hr => first | (go_simp; done) | (go_simp; rfl)); intro g6 hg wg6 hbox hb; have m0_ := Aside0.mk (by rw [hg]; exact below_size (by repeat (first | (with_reducible first | exact HB.out | apply below_alloc | apply pw_below_drewN | apply below_drew1) | exact HB.out)) : w.heap.size ≤ g6); have m1_ := Aside0.mk (below_step (by repeat (first | (with_reducible first | exact HB.out | apply below_alloc | apply pw_below_drewN | apply below_drew1) | exact HB.out)) hb); have o0_ := Aside0.mk (blk_below B2.out hb); have q0_ := Aside0.mk (by rw [hg]; exact Nat.ne_of_gt (blk_lt B2.out) : g6 ≠ _); have h_ := Aside0.mk (Kd.R_below (Kd.R_elderB (by (with_reducible repeat (first | apply Kd.R_alloc | apply Kd.R_drewN | apply Kd.R_drew)); exact HO.out) g6 (Nat.le_of_eq hg.symm)) hb); clear HB B2 HO; have HB := m1_; have GEg6 := m0_; have B2 := o0_; have NE62 := q0_; have HO := h_; have B6 := Aside0.mk hbox; clear hg hbox hb; have f0 : wg6.cell? ⟨g6, 0, none⟩ = some (.slice none 0 0) := (blk_cell B6.out 0).trans rfl; have f1 := blk_frozen B6.out 0))
      have HB7 := below_set HB.out (j := 0) (v := (.slice Ao sz.length co)) GEg6.out
      have B27 := blk_far B2.out (p := ⟨g6, 0, none⟩) NE62.out.symm (.slice Ao sz.length co)
      have B67 := blk_put B6.out 0 (.slice Ao sz.length co) rfl
      have HO7 := Kd.R_mono (Kd.R_far (p := ⟨g6, 0, none⟩) HO.out (fun _ hk => hk.2) (.slice Ao sz.length co)) (ok' := fun _ => True) (fun _ _ => trivial)
      generalize wg6.setCell ⟨g6, 0, none⟩ (.slice Ao sz.length co) = w7 at HB7 B27 B67 HO7 ⊢
      clear HB B2 B6 HO f0 f1 NE62
      have HB := Aside0.mk HB7
      have B2 := Aside0.mk B27
      have B6 := Aside0.mk B67
      have HO := Aside0.mk HO7
      have m2 : w7.cell? ⟨g2, 0, none⟩ = some (.slice A0 l0.length c0) := (blk_cell B2.out 0).trans rfl
      clear HB7 B27 B67 HO7
      go_wp2
      go_ret2
      exact ⟨_, by first | rfl | (simp [errW_none, errW_some] <;> rfl) | (simp [*, errW_none, errW_some] <;> rfl), by first | exact Kd.R_nil _ _ _ _ _, by repeat (first | (with_reducible first | exact HB.out | apply below_alloc | apply pw_below_drewN | apply below_drew1) | exact HB.out)⟩
  · rw [if_neg c4] at H
    have c4b1 : (t != 0) = true := bne_iff_ne.mpr c4
    clear c4
    simp only [Option.some.injEq, Prod.mk.injEq] at H
    obtain ⟨rfl, rfl⟩ := H
    go_enter Tryd.func36, Tryd.ntmps36
    go_upto_region 2 with (first
      | ((with_reducible refine gate_dst (N := 2) rfl ?_); refine box_event ?hg (N := 2) ?hd (cs := #[.slice A0 l0.length c0]) (t := 42) ?hr ?_; (case hd => rfl); (case hg => rfl); (case hr => first | (go_simp; done) | (go_simp; rfl)); intro g2 hg wg2 hbox hb; have m0_ := Aside0.mk (by rw [hg]; exact below_size (by repeat (first | (with_reducible first | exact HB.out | apply below_alloc | apply pw_below_drewN | apply below_drew1) | exact HB.out)) : w.heap.size ≤ g2); have m1_ := Aside0.mk (below_step (by repeat (first | (with_reducible first | exact HB.out | apply below_alloc | apply pw_below_drewN | apply below_drew1) | exact HB.out)) hb); clear HB ; have HB := m1_; have GEg2 := m0_; have B2 := Aside0.mk hbox; clear hg hbox hb; have f2 : wg2.cell? ⟨g2, 0, none⟩ = some (.slice A0 l0.length c0) := (blk_cell B2.out 0).trans rfl)
      | ((with_reducible refine gate_callee (f := 80) rfl ?_); refine goesL_ (some 14) rfl rfl Tryd.func80 (by kernel_rfl) rfl #[.slice A0 l0.length c0] rfl (by (try simp only [List.map_toArray, List.map_cons, List.map_nil]); first | done | rfl | (simp only [List.length_drop, List.length_take]; rfl)) ?_; (with_reducible refine (gauge_virtual.calls k _ _ l0 sz t _ ?side1 ?side2 A3.out (by exact sig_below HS.out (by repeat (first | (with_reducible first | exact HB.out | apply below_alloc | apply pw_below_drewN | apply below_drew1) | exact HB.out)))).mono ?_); (case side1 => repeat (first | exact (Kd.C_below HR0.out HB.out) | (with_reducible refine Kd.C_alloc ?_ _) | (with_reducible refine Kd.C_drewN ?_ _) | (with_reducible refine Kd.C_drew ?_))); (case side2 => exact HC0.out); rintro e w6 ⟨v114, rfl, ho0, hb⟩; refine ⟨_, rfl, ?_⟩; have o0_ := Aside0.mk (blk_below B2.out hb); have n0_ := Aside0.mk (Kd.R_lower ho0 (below_size (by repeat (first | (with_reducible first | exact HB.out | apply below_alloc | apply pw_below_drewN | apply below_drew1) | exact HB.out)))); have n1_ := Aside0.mk (below_step (by repeat (first | (with_reducible first | exact HB.out | apply below_alloc | apply pw_below_drewN | apply below_drew1) | exact HB.out)) hb); clear HB B2; have HO := n0_; have HB := n1_; have B2 := o0_; clear n0_ n1_ hb ho0; obtain ⟨Ao, co, eo⟩ := Kd.R_slice HO.out; subst eo)
      | ((with_reducible refine gate_dst (N := 6) rfl ?_); refine box_event ?hg (N := 6) ?hd (cs := #[.slice none 0 0]) (t := 58) ?hr ?_; (case hd => rfl); (case hg => rfl); (case hr => first | (go_simp; done) | (go_simp; rfl)); intro g6 hg wg6 hbox hb; have m0_ := Aside0.mk (by rw [hg]; exact below_size (by repeat (first | (with_reducible first | exact HB.out | apply below_alloc | apply pw_below_drewN | apply below_drew1) | exact HB.out)) : w.heap.size ≤ g6); have m1_ := Aside0.mk (below_step (by repeat (first | (with_reducible first | exact HB.out | apply below_alloc | apply pw_below_drewN | apply below_drew1) | exact HB.out)) hb); have o0_ := Aside0.mk (blk_below B2.out hb); have q0_ := Aside0.mk (by rw [hg]; exact Nat.ne_of_gt (blk_lt B2.out) : g6 ≠ _); have h_ := Aside0.mk (Kd.R_below (Kd.R_elderB (by (with_reducible repeat (first | apply Kd.R_alloc | apply Kd.R_drewN | apply Kd.R_drew)); exact HO.out) g6 (Nat.le_of_eq hg.symm)) hb); clear HB B2 HO; have HB := m1_; have GEg6 := m0_; have B2 := o0_; have NE62 := q0_; have HO := h_; have B6 := Aside0.mk hbox; clear hg hbox hb; have f0 : wg6.cell? ⟨g6, 0, none⟩ = some (.slice none 0 0) := (blk_cell B6.out 0).trans rfl; have f1 := blk_frozen B6.out 0))
    have HB7 := below_set HB.out (j := 0) (v := (.slice Ao sz.length co)) GEg6.out
    have B27 := blk_far B2.out (p := ⟨g6, 0, none⟩) NE62.out.symm (.slice Ao sz.length co)
    have B67 := blk_put B6.out 0 (.slice Ao sz.length co) rfl
    have HO7 := Kd.R_mono (Kd.R_far (p := ⟨g6, 0, none⟩) HO.out (fun _ hk => hk.2) (.slice Ao sz.length co)) (ok' := fun _ => True) (fun _ _ => trivial)
    generalize wg6.setCell ⟨g6, 0, none⟩ (.slice Ao sz.length co) = w7 at HB7 B27 B67 HO7 ⊢
    clear HB B2 B6 HO f0 f1 NE62
    have HB := Aside0.mk HB7
    have B2 := Aside0.mk B27
    have B6 := Aside0.mk B67
    have HO := Aside0.mk HO7
    have m2 : w7.cell? ⟨g2, 0, none⟩ = some (.slice A0 l0.length c0) := (blk_cell B2.out 0).trans rfl
    clear HB7 B27 B67 HO7
    go_wp2
    go_ret2
    exact ⟨_, by first | rfl | (simp [errW_none, errW_some] <;> rfl) | (simp [*, errW_none, errW_some] <;> rfl), by first | exact Kd.R_nil _ _ _ _ _, by repeat (first | (with_reducible first | exact HB.out | apply below_alloc | apply pw_below_drewN | apply below_drew1) | exact HB.out)⟩
end Go.Proofs.YtjemaonejkepcaaDoor.G
namespace Go.Proofs.YtjemaonejkepcaaDoor.G
open Go.Proofs.YtjemaonejkepcaaDoor.B
open Go.RowKit Go.Proofs.YtjemaonejkepcaaDoorW.PrintWords Go.Proofs.YtjemaonejkepcaaDoorW.PrintLast Go.Proofs.YtjemaonejkepcaaDoorW.PrintMore
attribute [local go_sem] max2_int min2_int max_two min_two max_three min_three max_four min_four   -- for this text's walks alone
set_option linter.unusedVariables false
set_option linter.unusedSimpArgs false
def slices_Equal_int_int.l0 : Nat → List Int → List Int → Int → Int → Option (Bool)
  | 0, _, _, _, _ => none
  | k + 1, x0, x1, x12, x13 => if x13 < x12 then (if 0 ≤ x13 then (if x13 < (x0.length : Int) then (if x13 < (x1.length : Int) then (if (rd x0 x13) = (rd x1 x13) then (slices_Equal_int_int.l0 k x0 x1 x12 (wrap64 (x13 + 1))) else (some false)) else (none)) else (none)) else (none)) else (some true)
def slices_Equal_int_int.f (k : Nat) (l0 : List Int) (l1 : List Int) : Option (Bool) := if (l0.length : Int) = (l1.length : Int) then (slices_Equal_int_int.l0 k l0 l1 (l0.length : Int) 0) else (some false)
theorem slices_Equal_int_int.mono_l : ∀ k, (∀ y0 y1 y2 y3, LeO (slices_Equal_int_int.l0 k y0 y1 y2 y3) (slices_Equal_int_int.l0 (k + 1) y0 y1 y2 y3))
  | 0 => fun _ _ _ _ r h => by simp [slices_Equal_int_int.l0] at h
  | k + 1 => by
    have ih0 := slices_Equal_int_int.mono_l k
    · intro y0 y1 y2 y3
      unfold slices_Equal_int_int.l0
      repeat' first
      | (with_reducible exact ih0 _ _ _ _)
      | (with_reducible exact LeO.refl _)
      | (with_reducible exact LeO.none _)
      | (with_reducible refine LeO.ite ?_ ?_)
      | (with_reducible refine LeO.bind ?_ (fun _ => ?_))
      | exact ih0 _ _ _ _
      | exact LeO.none _
      | refine LeO.ite ?_ ?_
      | refine LeO.bind ?_ (fun _ => ?_)
theorem slices_Equal_int_int.mono : ∀ a0 a1 k, LeO (slices_Equal_int_int.f k a0 a1) (slices_Equal_int_int.f (k + 1) a0 a1) := by
  intro a0 a1 k
  have ih0 := slices_Equal_int_int.mono_l k
  unfold slices_Equal_int_int.f
  repeat' first
      | (with_reducible exact ih0 _ _ _ _)
      | (with_reducible exact LeO.refl _)
      | (with_reducible exact LeO.none _)
      | (with_reducible refine LeO.ite ?_ ?_)
      | (with_reducible refine LeO.bind ?_ (fun _ => ?_))
      | exact ih0 _ _ _ _
      | exact LeO.none _
      | refine LeO.ite ?_ ?_
      | refine LeO.bind ?_ (fun _ => ?_)
set_option maxHeartbeats 8000000 in
set_option maxRecDepth 100000 in
theorem slices_Equal_int_int.calls (k : Nat) (A0 : Option Addr) (c0 : Nat) (l0 : List Int) (A1 : Option Addr) (c1 : Nat) (l1 : List Int) (r : Bool) (w : World) (hr0 : Kd.C (Kd.int .i64) w A0 l0.length l0) (hc0 : l0.length ≤ c0) (hr1 : Kd.C (Kd.int .i64) w A1 l1.length l1) (hc1 : l1.length ≤ c1) (h : slices_Equal_int_int.f k l0 l1 = some r) :
    Calls Tryd.prog 55 #[.slice A0 l0.length c0, .slice A1 l1.length c1] w fun e w' => e = .returned (.bool r) ∧ Drawn0 w w' := by
  have HR0 := Aside0.mk hr0
  have HC0 := Aside0.mk hc0
  clear hr0 hc0
  have HR1 := Aside0.mk hr1
  have HC1 := Aside0.mk hc1
  clear hr1 hc1
  have H : (if (l0.length : Int) = (l1.length : Int) then (slices_Equal_int_int.l0 k l0 l1 (l0.length : Int) 0) else (some false)) = some r := h
  clear h
  by_cases c3 : (l0.length : Int) = (l1.length : Int)
  · rw [if_pos c3] at H
    have c3b0 : ((l0.length : Int) == (l1.length : Int)) = true := beq_iff_eq.mpr c3
    have c3b1 : ((l0.length : Int) != (l1.length : Int)) = false := bne_eq_false_iff_eq.mpr c3
    have c3b2 : (l0.length == l1.length) = true := by first | simpa using c3 | (simp at c3 ⊢; omega)
    clear c3
    have H' := Aside0.mk H
    clear H
    go_enter Tryd.func55, Tryd.ntmps55
    go_wp2
    repeat (go_quiet (fail); try go_wp2)
    go_loopg [13] k (fun kq v13 w' => ∃ (x13_1 : Int), v13 = .int .i64 x13_1 ∧ Aside0 (slices_Equal_int_int.l0 kq l0 l1 (l0.length : Int) x13_1 = some r) ∧ Aside0 (kq ≤ k) ∧ Drawn0 w w')
    case atStart => exact ⟨(0), (by first | rfl | (simp; done) | (simp [*]; done)), H', ⟨Nat.le_refl _⟩, by repeat (first | exact Drawn0.refl _ | apply Drawn0.step)⟩
    case round =>
      clear H'
      try clear c1
      try clear p2
      try clear c3
      try clear c3b0
      try clear c3b1
      try clear c3b2
      obtain ⟨x13_1, rfl, HA, HK1, ⟨m1, rfl⟩⟩ := hrel
      cases gk with
      | zero => exact absurd HA.out (by simp [slices_Equal_int_int.l0])
      | succ k1 =>
        have H := HA.out
        clear HA
        simp only [slices_Equal_int_int.l0] at H
        by_cases c4 : x13_1 < (l0.length : Int)
        · rw [if_pos c4] at H
          have c4b0 : decide (x13_1 < (l0.length : Int)) = true := decide_eq_true c4
          clear c4
          by_cases c5 : 0 ≤ x13_1
          · rw [if_pos c5] at H
            have c5b0 : decide (0 ≤ x13_1) = true := decide_eq_true c5
            clear c5
            by_cases c6 : x13_1 < (l0.length : Int)
            · rw [if_pos c6] at H
              have c6b0 : decide (x13_1 < (l0.length : Int)) = true := decide_eq_true c6
              clear c6
              by_cases c7 : x13_1 < (l1.length : Int)
              · rw [if_pos c7] at H
                have c7b0 : decide (x13_1 < (l1.length : Int)) = true := decide_eq_true c7
                clear c7
                by_cases c8 : (rd l0 x13_1) = (rd l1 x13_1)
                · rw [if_pos c8] at H
                  have c8b0 : ((rd l0 x13_1) == (rd l1 x13_1)) = true := beq_iff_eq.mpr c8
                  have c8b1 : ((rd l0 x13_1) != (rd l1 x13_1)) = false := bne_eq_false_iff_eq.mpr c8
                  clear c8
                  have H' := Aside0.mk H
                  clear H
                  have p168 : 0 ≤ (x13_1 : Int) := of_decide_eq_true (by first | (with_reducible assumption) | assumption)
                  have q168 : x13_1 < (l0.length : Int) := of_decide_eq_true (by first | (with_reducible assumption) | assumption)
                  obtain ⟨ad168, e168, hx168_0⟩ := Kd.at_int HR0.out x13_1 p168 q168
                  cases e168
                  replace p168 := eq_true p168
                  replace q168 := eq_true q168
                  have p169 : 0 ≤ (x13_1 : Int) := of_decide_eq_true (by first | (with_reducible assumption) | assumption)
                  have q169 : x13_1 < (l1.length : Int) := of_decide_eq_true (by first | (with_reducible assumption) | assumption)
                  obtain ⟨ad169, e169, hx169_0⟩ := Kd.at_int HR1.out x13_1 p169 q169
                  cases e169
                  replace p169 := eq_true p169
                  replace q169 := eq_true q169
                  go_wp2
                  repeat (go_quiet (fail); try go_wp2)
                  go_roundg k1
                  case measure => have := HK1.out; omega
                  case rel => exact ⟨(wrap64 (x13_1 + 1)), (by first | rfl | (simp; done) | (simp [*]; done)), H', ⟨by have := HK1.out; omega⟩, by repeat (first | exact Drawn0.refl _ | apply Drawn0.step)⟩
                · rw [if_neg c8] at H
                  have c8b0 : ((rd l0 x13_1) == (rd l1 x13_1)) = false := beq_eq_false_iff_ne.mpr c8
                  have c8b1 : ((rd l0 x13_1) != (rd l1 x13_1)) = true := bne_iff_ne.mpr c8
                  obtain rfl := Option.some.inj H
                  have p168 : 0 ≤ (x13_1 : Int) := of_decide_eq_true (by first | (with_reducible assumption) | assumption)
                  have q168 : x13_1 < (l0.length : Int) := of_decide_eq_true (by first | (with_reducible assumption) | assumption)
                  obtain ⟨ad168, e168, hx168_0⟩ := Kd.at_int HR0.out x13_1 p168 q168
                  cases e168
                  replace p168 := eq_true p168
                  replace q168 := eq_true q168
                  have p169 : 0 ≤ (x13_1 : Int) := of_decide_eq_true (by first | (with_reducible assumption) | assumption)
                  have q169 : x13_1 < (l1.length : Int) := of_decide_eq_true (by first | (with_reducible assumption) | assumption)
                  obtain ⟨ad169, e169, hx169_0⟩ := Kd.at_int HR1.out x13_1 p169 q169
                  cases e169
                  replace p169 := eq_true p169
                  replace q169 := eq_true q169
                  go_wp2
                  repeat (go_quiet (fail); try go_wp2)
                  go_ret
                  exact ⟨by first | rfl | (simp; done) | (simp [*]; done), by repeat (first | exact Drawn0.refl _ | apply Drawn0.step)⟩
              · rw [if_neg c7] at H
                exact absurd H (by simp)
            · rw [if_neg c6] at H
              exact absurd H (by simp)
          · rw [if_neg c5] at H
            exact absurd H (by simp)
        · rw [if_neg c4] at H
          have c4b0 : decide (x13_1 < (l0.length : Int)) = false := decide_eq_false c4
          clear c4
          obtain rfl := Option.some.inj H
          go_wp2
          repeat (go_quiet (fail); try go_wp2)
          go_ret
          exact ⟨by first | rfl | (simp; done) | (simp [*]; done), by repeat (first | exact Drawn0.refl _ | apply Drawn0.step)⟩
  · rw [if_neg c3] at H
    have c3b0 : ((l0.length : Int) == (l1.length : Int)) = false := beq_eq_false_iff_ne.mpr c3
    have c3b1 : ((l0.length : Int) != (l1.length : Int)) = true := bne_iff_ne.mpr c3
    have c3b2 : (l0.length == l1.length) = false := by first | simpa using c3 | (simp at c3 ⊢; omega)
    obtain rfl := Option.some.inj H
    go_enter Tryd.func55, Tryd.ntmps55
    go_wp2
    repeat (go_quiet (fail); try go_wp2)
    go_ret
    exact ⟨by first | rfl | (simp; done) | (simp [*]; done), by repeat (first | exact Drawn0.refl _ | apply Drawn0.step)⟩
end Go.Proofs.YtjemaonejkepcaaDoor.G
