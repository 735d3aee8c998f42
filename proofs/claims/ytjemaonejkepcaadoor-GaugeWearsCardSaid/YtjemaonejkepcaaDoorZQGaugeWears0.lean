/- Texts of the law GaugeWears, laid together by a program of this session; what is not reached is cut. In it: words that the kit's print.sh printed, contracts of Go functions printed over the kit's printer, our own laws. Not trusted: Lean checks them. -/
import Derived.Test.YtjemaonejkepcaaDoorZQc5
namespace Go.Proofs.YtjemaonejkepcaaDoor.G
open Go.Proofs.YtjemaonejkepcaaDoor.B
open Go.RowKit Go.Proofs.YtjemaonejkepcaaDoorW.PrintWords Go.Proofs.YtjemaonejkepcaaDoorW.PrintLast Go.Proofs.YtjemaonejkepcaaDoorW.PrintMore
attribute [local go_sem] max2_int min2_int max_two min_two max_three min_three max_four min_four   -- for this text's walks alone
set_option linter.unusedVariables false
set_option linter.unusedSimpArgs false
theorem eqA142 (d : Nat) (w : World) (x0 y0 : Int) (x1 y1 : Int) (x2 y2 : Bool) (x3 y3 : Int) :
    (Op.equalIn (d + 3) 142 (.agg #[.int .i64 x0, .int .i64 x1, .bool x2, .int .i64 x3]) (.agg #[.int .i64 y0, .int .i64 y1, .bool y2, .int .i64 y3])).run Tryd.prog w = .ok ((x0 == y0 && (x1 == y1)) && (x2 == y2 && (x3 == y3))) w := by
  refine eqA_of Tryd.underlying142 (by kernel_rfl) ?_
  refine eqf_cons (by rfl) (by go_simp) (by go_simp) (eqA23 (d + 0) w _ _ _ _) ?_
  refine eqf_cons (by rfl) (by go_simp; rfl) (by go_simp; rfl) (by go_simp) ?_
  exact eqf_last (by rfl) (by go_simp; rfl) (by go_simp; rfl) (by go_simp)
end Go.Proofs.YtjemaonejkepcaaDoor.G
namespace Go.Proofs.YtjemaonejkepcaaDoor.G
open Go.Proofs.YtjemaonejkepcaaDoor.B
open Go.RowKit Go.Proofs.YtjemaonejkepcaaDoorW.PrintWords Go.Proofs.YtjemaonejkepcaaDoorW.PrintLast Go.Proofs.YtjemaonejkepcaaDoorW.PrintMore
attribute [local go_sem] max2_int min2_int max_two min_two max_three min_three max_four min_four   -- for this text's walks alone
set_option linter.unusedVariables false
set_option linter.unusedSimpArgs false
def metrolablaw47_tools.l0 : Nat → List (S142) → List (S56) → Int → Int → Option ((List (S142)))
  | 0, _, _, _, _ => none
  | k + 1, x3, x6, x7, x8 => if x8 < x7 then (if 0 ≤ x8 then (if x8 < (x6.length : Int) then (if x3.length < 4398046511104 then (metrolablaw47_tools.l0 k (x3 ++ [(⟨(⟨(rd_T56 x6 x8).f0.f0, (rd_T56 x6 x8).f0.f1⟩ : S23), (rd_T56 x6 x8).f1, (rd_T56 x6 x8).f2⟩ : S142)]) x6 x7 (wrap64 (x8 + 1))) else (none)) else (none)) else (none)) else (some x3)
def metrolablaw47_tools.f (k : Nat) (l0 : List (S56)) : Option ((List (S142))) := metrolablaw47_tools.l0 k ([] : List (S142)) l0 (l0.length : Int) 0
theorem metrolablaw47_tools.mono_l : ∀ k, (∀ y0 y1 y2 y3, LeO (metrolablaw47_tools.l0 k y0 y1 y2 y3) (metrolablaw47_tools.l0 (k + 1) y0 y1 y2 y3))
  | 0 => fun _ _ _ _ r h => by simp [metrolablaw47_tools.l0] at h
  | k + 1 => by
    have ih0 := metrolablaw47_tools.mono_l k
    · intro y0 y1 y2 y3
      unfold metrolablaw47_tools.l0
      repeat' first
      | (with_reducible exact ih0 _ _ _ _)
      | (with_reducible exact LeO.refl _)
      | (with_reducible exact LeO.none _)
      | (with_reducible refine LeO.ite ?_ ?_)
      | (with_reducible refine LeO.bind ?_ (fun _ => ?_))
      | exact ih0 _ _ _ _
      | exact LeO.none _
      | refine LeO.ite ?_ ?_
      | refine LeO.bind ?_ (fun _ => ?_)
theorem metrolablaw47_tools.mono : ∀ a0 k, LeO (metrolablaw47_tools.f k a0) (metrolablaw47_tools.f (k + 1) a0) := by
  intro a0 k
  have ih0 := metrolablaw47_tools.mono_l k
  unfold metrolablaw47_tools.f
  repeat' first
      | (with_reducible exact ih0 _ _ _ _)
      | (with_reducible exact LeO.refl _)
      | (with_reducible exact LeO.none _)
      | (with_reducible refine LeO.ite ?_ ?_)
      | (with_reducible refine LeO.bind ?_ (fun _ => ?_))
      | exact ih0 _ _ _ _
      | exact LeO.none _
      | refine LeO.ite ?_ ?_
      | refine LeO.bind ?_ (fun _ => ?_)
set_option maxHeartbeats 8000000 in
set_option maxRecDepth 100000 in
theorem metrolablaw47_tools.calls (k : Nat) (A0 : Option Addr) (c0 : Nat) (l0 : List (S56)) (r : List (S142)) (w : World) (hr0 : Kd.C k56 w A0 l0.length l0) (hc0 : l0.length ≤ c0) (h : metrolablaw47_tools.f k l0 = some r) :
    Calls Tryd.prog 61 #[.slice A0 l0.length c0] w fun e w' => ∃ v0_ : Value, e = .returned (v0_) ∧ Kd.R k142 142 w' w.heap.size (fun _ => True) v0_ r ∧ Below w.heap.size w w' := by
  have hu56 := Tryd.underlying56
  have HR0 := Aside0.mk hr0
  have HC0 := Aside0.mk hc0
  clear hr0 hc0
  have HB := Aside0.mk (Below.refl w.heap.size w)
  have H : (metrolablaw47_tools.l0 k ([] : List (S142)) l0 (l0.length : Int) 0) = some r := h
  clear h
  have H' := Aside0.mk H
  clear H
  go_enter Tryd.func61, Tryd.ntmps61
  go_wp2
  go_loopg [3, 8] k (fun kq v3 v8 w' => ∃ (x3_1 : List (S142)) (x8_1 : Int), v8 = .int .i64 x8_1 ∧ Aside0 (metrolablaw47_tools.l0 kq x3_1 l0 (l0.length : Int) x8_1 = some r) ∧ Aside0 (kq ≤ k) ∧ Aside0 (Kd.R k142 142 w' w.heap.size (fun _ => True) v3 x3_1) ∧ Aside0 (Below w.heap.size w w'))
  case atStart => exact ⟨(([] : List (S142))), (0), (by first | rfl | (simp; done) | (simp [*]; done)), H', ⟨Nat.le_refl _⟩, ⟨by first | exact Kd.R_nil _ _ _ _ _ | exact Kd.N_nil _ _ _ _ _ | exact Kd.V_nil _ _ _ _ _ | exact Kd.Q_nil _ _ _ _ _ | exact Kd.S_nil _ _ _ _ _⟩, ⟨by repeat (first | (with_reducible first | exact HB.out | apply below_alloc | apply pw_below_drewN | apply below_drew1) | exact HB.out)⟩⟩
  case round =>
    clear H'
    obtain ⟨x3_1, x8_1, rfl, HA, HK1, HO_3, HB⟩ := hrel
    cases gk with
    | zero => exact absurd HA.out (by simp [metrolablaw47_tools.l0])
    | succ k1 =>
      have H := HA.out
      clear HA
      simp only [metrolablaw47_tools.l0] at H
      by_cases c2 : x8_1 < (l0.length : Int)
      · rw [if_pos c2] at H
        have c2b0 : decide (x8_1 < (l0.length : Int)) = true := decide_eq_true c2
        clear c2
        by_cases c3 : 0 ≤ x8_1
        · rw [if_pos c3] at H
          have c3b0 : decide (0 ≤ x8_1) = true := decide_eq_true c3
          clear c3
          by_cases c4 : x8_1 < (l0.length : Int)
          · rw [if_pos c4] at H
            have c4b0 : decide (x8_1 < (l0.length : Int)) = true := decide_eq_true c4
            clear c4
            by_cases c5 : x3_1.length < 4398046511104
            · rw [if_pos c5] at H
              have LMc5 := Aside0.mk c5
              clear c5
              obtain ⟨y331, hy331⟩ : ∃ y_ : List (S142), y_ = (x3_1 ++ [(⟨(⟨(rd_T56 l0 x8_1).f0.f0, (rd_T56 l0 x8_1).f0.f1⟩ : S23), (rd_T56 l0 x8_1).f1, (rd_T56 l0 x8_1).f2⟩ : S142)]) := ⟨_, rfl⟩
              replace H : (metrolablaw47_tools.l0 k1 y331 l0 (l0.length : Int) (wrap64 (x8_1 + 1))) = some r := by first | (rw [hy331]; with_reducible exact H) | (have H2_ := (Option.bind_some _ _).symm.trans H; rw [hy331]; with_reducible exact H2_) | (have H2_ := (Option.bind_some _ _).symm.trans H; with_reducible exact H2_) | with_reducible exact H | (rw [hy331]; exact H) | exact H
              have Ny331 := Aside0.mk hy331
              clear hy331
              have H' := Aside0.mk H
              clear H
              have p329 : 0 ≤ (x8_1 : Int) := of_decide_eq_true (by first | (with_reducible assumption) | assumption)
              have q329 : x8_1 < (l0.length : Int) := of_decide_eq_true (by first | (with_reducible assumption) | assumption)
              obtain ⟨ad329, e329, hx329_0, hx329_1, hx329_2, hx329_3⟩ := at_T56 HR0.out x8_1 p329 q329
              cases e329
              replace hx329_0 := (HB.out.cell (World.block_lt_of_cell? w _ hx329_0)).trans hx329_0
              replace hx329_1 := (HB.out.cell (World.block_lt_of_cell? w _ hx329_1)).trans hx329_1
              replace hx329_2 := (HB.out.cell (World.block_lt_of_cell? w _ hx329_2)).trans hx329_2
              replace hx329_3 := (HB.out.cell (World.block_lt_of_cell? w _ hx329_3)).trans hx329_3
              replace p329 := eq_true p329
              replace q329 := eq_true q329
              go_wp2_with (first | ((with_reducible refine gate_dst (N := 5) rfl ?_); refine box_event ?hg (N := 5) ?hd (cs := #[.int .i64 0, .int .i64 0, .bool false, .int .i64 0]) (t := 56) ?hr ?_; (case hd => rfl); (case hg => rfl); (case hr => first | (go_simp; done) | (go_simp; rfl)); intro gb330 hg w6 hbox hb; have n0_ := Aside0.mk (Kd.R_below (by (with_reducible repeat (first | apply Kd.R_alloc | apply Kd.R_drewN | apply Kd.R_drew)); exact HO_3.out) hb); have n1_ := Aside0.mk (below_step (by repeat (first | (with_reducible first | exact HB.out | apply below_alloc | apply pw_below_drewN | apply below_drew1) | exact HB.out)) hb); have n2_ := Aside0.mk (hbox); have n3_ := Aside0.mk ((by rw [hg]; exact (below_size (by repeat (first | (with_reducible first | exact HB.out | apply below_alloc | apply pw_below_drewN | apply below_drew1) | exact HB.out))) : w.heap.size ≤ gb330)); have n4_ := Aside0.mk ((by rw [hg]; exact (below_size (by repeat (first | (with_reducible first | exact HB.out | apply below_alloc | apply pw_below_drewN | apply below_drew1) | exact HB.out))) : w.heap.size ≤ gb330)); clear HO_3; clear HB; have HO_3 := n0_; have HB := n1_; have BK330 := n2_; have GW330 := n3_; have GE330 := n4_; clear n0_ n1_ n2_ n3_ n4_; clear hb hbox hg; have hcz7_0 : w6.cell? ⟨gb330, 0, none⟩ = some (.int .i64 0) := (blk_cell BK330.out 0).trans rfl; have hcz7_1 : w6.cell? ⟨gb330, 1, none⟩ = some (.int .i64 0) := (blk_cell BK330.out 1).trans rfl; have hcz7_2 : w6.cell? ⟨gb330, 2, none⟩ = some (.bool false) := (blk_cell BK330.out 2).trans rfl; have hcz7_3 : w6.cell? ⟨gb330, 3, none⟩ = some (.int .i64 0) := (blk_cell BK330.out 3).trans rfl; have hfz7_0 := blk_frozen BK330.out 0; have hfz7_1 := blk_frozen BK330.out 1; have hfz7_2 := blk_frozen BK330.out 2; have hfz7_3 := blk_frozen BK330.out 3) | ((with_reducible refine gate_builtin (b := .append) (xs := #[.tmp 12, .tmp 14]) rfl ?_); at_builtin; refine Kd.R_append k142 (w0 := w) w.heap.size rfl (.tmp 12) (.tmp 14) 95 142 (.agg #[(.int .i64 0), (.int .i64 0), (.bool false), (.int .i64 0)]) 32 rfl Tryd.underlying95 info142 rfl (by decide) (by omega) u3 x3_1 (⟨(⟨(rd_T56 l0 x8_1).f0.f0, (rd_T56 l0 x8_1).f0.f1⟩ : S23), (rd_T56 l0 x8_1).f1, (rd_T56 l0 x8_1).f2⟩ : S142) [.int .i64 ((rd_T56 l0 x8_1).f0.f0), .int .i64 ((rd_T56 l0 x8_1).f0.f1), .bool ((rd_T56 l0 x8_1).f1), .int .i64 ((rd_T56 l0 x8_1).f2)] (fun _ => True) (fun _ => False) rfl (by first | (go_simp; done) | (go_simp; rfl)) ?aP (fun _ hk => hk.elim) ?aF ?aO ?aB ?aS ?aL ?_; (case aP => exact k142_mkM _ _ _ (⟨(⟨(rd_T56 l0 x8_1).f0.f0, (rd_T56 l0 x8_1).f0.f1⟩ : S23), (rd_T56 l0 x8_1).f1, (rd_T56 l0 x8_1).f2⟩ : S142)); (case aB => exact (by repeat (first | (with_reducible first | exact HB.out | apply below_alloc | apply pw_below_drewN | apply below_drew1 | refine below_set ?_ GE330.out) | exact HB.out))); (case aF => exact (fun _ _ => trivial)); (case aO => exact (by (with_reducible repeat (first | apply Kd.R_alloc | apply Kd.R_drewN | apply Kd.R_drew)); exact Kd.R_mono (Kd.R_far (p := ⟨gb330, 3, none⟩) (Kd.R_far (p := ⟨gb330, 2, none⟩) (Kd.R_far (p := ⟨gb330, 1, none⟩) (Kd.R_far (p := ⟨gb330, 0, none⟩) (Kd.R_types HO_3.out BK330.out (by decide)) (fun _ hk => hk.2) (.int .i64 ((rd_T56 l0 x8_1).f0.f0))) (fun _ hk => hk.2) (.int .i64 ((rd_T56 l0 x8_1).f0.f1))) (fun _ hk => hk.2) (.bool ((rd_T56 l0 x8_1).f1))) (fun _ hk => hk.2) (.int .i64 ((rd_T56 l0 x8_1).f2))) (fun _ hk => trivial))); (case aS => exact (below_size (by repeat (first | (with_reducible first | exact HB.out | apply below_alloc | apply pw_below_drewN | apply below_drew1 | refine below_set ?_ GE330.out) | exact HB.out)))); (case aL => have := LMc5.out; omega); intro v332 w8 ho hb hg hat; rw [← Ny331.out] at ho; have n0_ := Aside0.mk (blk_grown (g := gb330) (o := .cells #[.int .i64 ((rd_T56 l0 x8_1).f0.f0), .int .i64 ((rd_T56 l0 x8_1).f0.f1), .bool ((rd_T56 l0 x8_1).f1), .int .i64 ((rd_T56 l0 x8_1).f2)] 56 (0, 0)) (by (with_reducible repeat (first | refine blk_drewN ?_ _ | refine blk_drew ?_ | refine blk_alloc ?_ _)); refine blk_put (cs := #[.int .i64 ((rd_T56 l0 x8_1).f0.f0), .int .i64 ((rd_T56 l0 x8_1).f0.f1), .bool ((rd_T56 l0 x8_1).f1), .int .i64 0]) ?_ 3 _ rfl; (with_reducible repeat (first | refine blk_drewN ?_ _ | refine blk_drew ?_ | refine blk_alloc ?_ _)); refine blk_put (cs := #[.int .i64 ((rd_T56 l0 x8_1).f0.f0), .int .i64 ((rd_T56 l0 x8_1).f0.f1), .bool false, .int .i64 0]) ?_ 2 _ rfl; (with_reducible repeat (first | refine blk_drewN ?_ _ | refine blk_drew ?_ | refine blk_alloc ?_ _)); refine blk_put (cs := #[.int .i64 ((rd_T56 l0 x8_1).f0.f0), .int .i64 0, .bool false, .int .i64 0]) ?_ 1 _ rfl; (with_reducible repeat (first | refine blk_drewN ?_ _ | refine blk_drew ?_ | refine blk_alloc ?_ _)); refine blk_put (cs := #[.int .i64 0, .int .i64 0, .bool false, .int .i64 0]) ?_ 0 _ rfl; (with_reducible repeat (first | refine blk_drewN ?_ _ | refine blk_drew ?_ | refine blk_alloc ?_ _)); exact BK330.out) hg (Kd.R_ne HO_3.out BK330.out (by decide))); have n1_ := Aside0.mk (hb); have n2_ := Aside0.mk (ho); clear BK330; clear HB; clear HO_3; have BK330 := n0_; have HB := n1_; have HO333 := n2_; clear n0_ n1_ n2_; clear ho hb hg hat))
              go_roundg k1
              case measure => have := HK1.out; omega
              case rel => exact ⟨(y331), (wrap64 (x8_1 + 1)), (by first | rfl | (simp; done) | (simp [*]; done)), H', ⟨by have := HK1.out; omega⟩, ⟨by (with_reducible repeat (first | apply Kd.R_alloc | apply Kd.R_drewN | apply Kd.R_drew)); exact HO333.out⟩, ⟨by repeat (first | (with_reducible first | exact HB.out | apply below_alloc | apply pw_below_drewN | apply below_drew1 | refine below_set ?_ GE330.out) | exact HB.out)⟩⟩
            · rw [if_neg c5] at H
              exact absurd H (by simp)
          · rw [if_neg c4] at H
            exact absurd H (by simp)
        · rw [if_neg c3] at H
          exact absurd H (by simp)
      · rw [if_neg c2] at H
        have c2b0 : decide (x8_1 < (l0.length : Int)) = false := decide_eq_false c2
        clear c2
        obtain rfl := Option.some.inj H
        go_wp2
        go_ret
        exact ⟨_, by first | rfl | (simp [errW_none, errW_some] <;> rfl) | (simp [*, errW_none, errW_some] <;> rfl), by (with_reducible repeat (first | apply Kd.R_alloc | apply Kd.R_drewN | apply Kd.R_drew)); exact HO_3.out, by repeat (first | (with_reducible first | exact HB.out | apply below_alloc | apply pw_below_drewN | apply below_drew1) | exact HB.out)⟩
end Go.Proofs.YtjemaonejkepcaaDoor.G
namespace Go.Proofs.YtjemaonejkepcaaDoor.G
set_option linter.unusedVariables false
set_option linter.unusedSimpArgs false
open Go.Proofs.YtjemaonejkepcaaDoor.B
open Go.RowKit Go.Proofs.YtjemaonejkepcaaDoorW.PrintWords Go.Proofs.YtjemaonejkepcaaDoorW.PrintMore
def tl (x : S56) : S142 := ⟨⟨x.f0.f0, x.f0.f1⟩, x.f1, x.f2⟩
theorem tools_l0 (l : List S56) (hn : l.length ≤ 1000) (d : Nat) : ∀ (k : Nat) (acc : List S142) (i : Int), 0 ≤ i → (l.length : Int) - i = d → acc.length + d ≤ 1000 → d < k →
    metrolablaw47_tools.l0 k acc l (l.length : Int) i = some (acc ++ (l.drop i.toNat).map tl) := by
  induction d with
  | zero =>
    intro k acc i h0 hd ha hk
    obtain ⟨k, rfl⟩ : ∃ m, k = m + 1 := ⟨k - 1, by omega⟩
    rw [drop_end l (by omega)]
    simp only [metrolablaw47_tools.l0]
    rw [if_neg (by omega)]; simp
  | succ d ih =>
    intro k acc i h0 hd ha hk
    obtain ⟨k, rfl⟩ : ∃ m, k = m + 1 := ⟨k - 1, by omega⟩
    have h1 : i < (l.length : Int) := by omega
    rw [drop_rd l z56 h0 h1]
    simp only [metrolablaw47_tools.l0]
    rw [if_pos h1, if_pos h0, if_pos h1, if_pos (by omega), up64 h0 (by omega), ih k _ (i + 1) (by omega) (by omega) (by simp; omega) (by omega)]
    simp [rd_T56, tl]
theorem tools_ok (k : Nat) (l : List S56) (hn : l.length ≤ 1000) (hk : l.length < k) : metrolablaw47_tools.f k l = some (l.map tl) := by
  unfold metrolablaw47_tools.f
  rw [tools_l0 l hn l.length k [] 0 (by omega) (by omega) (by simp; omega) hk]; simp
end Go.Proofs.YtjemaonejkepcaaDoor.G
namespace Go.Proofs.YtjemaonejkepcaaDoor.G
open Go.Proofs.YtjemaonejkepcaaDoor.B
open Go.RowKit Go.Proofs.YtjemaonejkepcaaDoorW.PrintWords Go.Proofs.YtjemaonejkepcaaDoorW.PrintLast Go.Proofs.YtjemaonejkepcaaDoorW.PrintMore
attribute [local go_sem] max2_int min2_int max_two min_two max_three min_three max_four min_four   -- for this text's walks alone
set_option linter.unusedVariables false
set_option linter.unusedSimpArgs false
attribute [local go_sem high] eqA23
mutual
def metrolabref47_Worn.l0 : Nat → List (S27) → List (S142) → List Int → Int → Option (List Int × Int)
  | 0, _, _, _, _ => none
  | k + 1, x0, x1, x7, x8 => if x8 < (x1.length : Int) then (if 0 ≤ x8 then ((metrolabref47_size.f ((rd_T142 x1 x8).f2)).bind fun t361 => (if t361 = true then (if x8 < (x0.length : Int) then (if (!(((rd_T142 x1 x8).f0.f0) == ((rd_T27 x0 x8).f0.f0)) || (!(((rd_T142 x1 x8).f0.f1) == ((rd_T27 x0 x8).f0.f1)))) = true then (metrolabref47_Worn.j1 k x0 x1 x7 x8 true) else (metrolabref47_Worn.j1 k x0 x1 x7 x8 (((rd_T142 x1 x8).f1) != ((rd_T27 x0 x8).f4)))) else (none)) else (some (([] : List Int), 2)))) else (none)) else (some (x7, 0))
def metrolabref47_Worn.j1 : Nat → List (S27) → List (S142) → List Int → Int → Bool → Option (List Int × Int)
  | 0, _, _, _, _, _ => none
  | k + 1, x0, x1, x7, x8, x55 => if x55 = true then (some (([] : List Int), 16)) else (if 0 ≤ x8 then (if x8 < (x0.length : Int) then (if x8 < (x1.length : Int) then ((metrolabref47_Beyond.f ((rd_T27 x0 x8).f0.f0) ((rd_T27 x0 x8).f0.f1) ((rd_T27 x0 x8).f1.f0) ((rd_T27 x0 x8).f1.f1) ((rd_T27 x0 x8).f2) ((rd_T27 x0 x8).f3) ((rd_T27 x0 x8).f4) ((rd_T142 x1 x8).f2)).bind fun t368 => (if t368 = true then (if x7.length < 17592186044416 then (metrolabref47_Worn.l0 k x0 x1 (x7 ++ [x8]) (wrap64 (x8 + 1))) else (none)) else (metrolabref47_Worn.l0 k x0 x1 x7 (wrap64 (x8 + 1))))) else (none)) else (none)) else (none))
end
def metrolabref47_Worn.f (k : Nat) (l0 : List (S27)) (l1 : List (S142)) : Option (List Int × Int) := (metrolabref47_Check.f k l0).bind fun t359 => (if t359 = 0 then (if (l1.length : Int) = (l0.length : Int) then (metrolabref47_Worn.l0 k l0 l1 ([] : List Int) 0) else (some (([] : List Int), 8))) else (some (([] : List Int), t359)))
theorem metrolabref47_Worn.mono_l : ∀ k, (∀ y0 y1 y2 y3, LeO (metrolabref47_Worn.l0 k y0 y1 y2 y3) (metrolabref47_Worn.l0 (k + 1) y0 y1 y2 y3)) ∧ (∀ y0 y1 y2 y3 y4, LeO (metrolabref47_Worn.j1 k y0 y1 y2 y3 y4) (metrolabref47_Worn.j1 (k + 1) y0 y1 y2 y3 y4))
  | 0 => ⟨fun _ _ _ _ r h => by simp [metrolabref47_Worn.l0] at h, fun _ _ _ _ _ r h => by simp [metrolabref47_Worn.j1] at h⟩
  | k + 1 => by
    obtain ⟨ih0, ih1⟩ := metrolabref47_Worn.mono_l k
    refine ⟨?_, ?_⟩
    · intro y0 y1 y2 y3
      unfold metrolabref47_Worn.l0
      repeat' first
      | (with_reducible exact ih0 _ _ _ _)
      | (with_reducible exact ih1 _ _ _ _ _)
      | (with_reducible exact metrolabref47_Check.mono _ _)
      | (with_reducible exact LeO.refl _)
      | (with_reducible exact LeO.none _)
      | (with_reducible refine LeO.ite ?_ ?_)
      | (with_reducible refine LeO.bind ?_ (fun _ => ?_))
      | exact ih0 _ _ _ _
      | exact ih1 _ _ _ _ _
      | exact metrolabref47_Check.mono _ _
      | exact LeO.none _
      | refine LeO.ite ?_ ?_
      | refine LeO.bind ?_ (fun _ => ?_)
    · intro y0 y1 y2 y3 y4
      unfold metrolabref47_Worn.j1
      repeat' first
      | (with_reducible exact ih0 _ _ _ _)
      | (with_reducible exact ih1 _ _ _ _ _)
      | (with_reducible exact metrolabref47_Check.mono _ _)
      | (with_reducible exact LeO.refl _)
      | (with_reducible exact LeO.none _)
      | (with_reducible refine LeO.ite ?_ ?_)
      | (with_reducible refine LeO.bind ?_ (fun _ => ?_))
      | exact ih0 _ _ _ _
      | exact ih1 _ _ _ _ _
      | exact metrolabref47_Check.mono _ _
      | exact LeO.none _
      | refine LeO.ite ?_ ?_
      | refine LeO.bind ?_ (fun _ => ?_)
theorem metrolabref47_Worn.mono : ∀ a0 a1 k, LeO (metrolabref47_Worn.f k a0 a1) (metrolabref47_Worn.f (k + 1) a0 a1) := by
  intro a0 a1 k
  obtain ⟨ih0, ih1⟩ := metrolabref47_Worn.mono_l k
  unfold metrolabref47_Worn.f
  repeat' first
      | (with_reducible exact ih0 _ _ _ _)
      | (with_reducible exact ih1 _ _ _ _ _)
      | (with_reducible exact metrolabref47_Check.mono _ _)
      | (with_reducible exact LeO.refl _)
      | (with_reducible exact LeO.none _)
      | (with_reducible refine LeO.ite ?_ ?_)
      | (with_reducible refine LeO.bind ?_ (fun _ => ?_))
      | exact ih0 _ _ _ _
      | exact ih1 _ _ _ _ _
      | exact metrolabref47_Check.mono _ _
      | exact LeO.none _
      | refine LeO.ite ?_ ?_
      | refine LeO.bind ?_ (fun _ => ?_)
def metrolabref47_Worn.T12 : Bool × List (List Nat × List Nat) := (true, [([], []), ([], []), ([0, 1], [0, 1]), ([2], [2]), ([3], [3]), ([], []), ([], []), ([5, 6], [5, 6]), ([7], [7]), ([8], [8]), ([4, 9], [4, 9]), ([10], [10]), ([11], [11]), ([11], [11]), ([12, 13, 11], [11, 12, 13]), ([14, 11], [11, 14]), ([15, 11], [11, 15]), ([11], [11]), ([11], [11]), ([17, 18, 11], [11, 17, 18]), ([19, 11], [11, 19]), ([20, 11], [11, 20]), ([16, 21, 11], [11, 16, 21]), ([11, 22], [11, 22])])
def metrolabref47_Worn.B12 : List Nat := [0, 0, 3, 7, 15, 0, 0, 96, 224, 480, 1023, 2047, 4095, 4095, 16383, 32767, 65535, 4095, 4095, 397311, 921599, 1970175, 4194303, 8388607]
theorem metrolabref47_Worn.tab12 : rtab .any (opsOf Tryd.f62 12) = metrolabref47_Worn.T12 := by kernel_rfl
theorem metrolabref47_Worn.bits12 : waitsOk metrolabref47_Worn.T12.2 metrolabref47_Worn.B12 = true := by kernel_rfl
def metrolabref47_Worn.T14 : Bool × List (List Nat × List Nat) := (true, [([], []), ([], []), ([0, 1], [0, 1]), ([2], [2]), ([], []), ([], []), ([4, 5], [4, 5]), ([6], [6]), ([7], [7]), ([3, 8], [3, 8])])
def metrolabref47_Worn.B14 : List Nat := [0, 0, 3, 7, 0, 0, 48, 112, 240, 511]
theorem metrolabref47_Worn.tab14 : rtab .any (opsOf Tryd.f62 14) = metrolabref47_Worn.T14 := by kernel_rfl
theorem metrolabref47_Worn.bits14 : waitsOk metrolabref47_Worn.T14.2 metrolabref47_Worn.B14 = true := by kernel_rfl
set_option maxHeartbeats 8000000 in
set_option maxRecDepth 100000 in
theorem metrolabref47_Worn.calls (k : Nat) (A0 : Option Addr) (c0 : Nat) (l0 : List (S27)) (A1 : Option Addr) (c1 : Nat) (l1 : List (S142)) (r1 : List Int) (r2 : Int) (w : World) (hr0 : Kd.C k27 w A0 l0.length l0) (hc0 : l0.length ≤ c0) (hr1 : Kd.C k142 w A1 l1.length l1) (hc1 : l1.length ≤ c1) (h : metrolabref47_Worn.f k l0 l1 = some (r1, r2)) :
    Calls Tryd.prog 62 #[.slice A0 l0.length c0, .slice A1 l1.length c1] w fun e w' => ∃ v0_ : Value, e = .returned (.tuple #[v0_, .int .i64 r2]) ∧ Kd.R (Kd.int .i64) 3 w' w.heap.size (fun _ => True) v0_ r1 ∧ Below w.heap.size w w' := by
  have hu23 := Tryd.underlying23
  have hu27 := Tryd.underlying27
  have HR0 := Aside0.mk hr0
  have HC0 := Aside0.mk hc0
  clear hr0 hc0
  have HR1 := Aside0.mk hr1
  have HC1 := Aside0.mk hc1
  clear hr1 hc1
  have HB := Aside0.mk (Below.refl w.heap.size w)
  have H : ((metrolabref47_Check.f k l0).bind fun t359 => (if t359 = 0 then (if (l1.length : Int) = (l0.length : Int) then (metrolabref47_Worn.l0 k l0 l1 ([] : List Int) 0) else (some (([] : List Int), 8))) else (some (([] : List Int), t359)))) = some (r1, r2) := h
  clear h
  replace H := Option.bind_eq_some_iff.mp H
  obtain ⟨t359, A30, H⟩ := H
  replace H : (if t359 = 0 then (if (l1.length : Int) = (l0.length : Int) then (metrolabref47_Worn.l0 k l0 l1 ([] : List Int) 0) else (some (([] : List Int), 8))) else (some (([] : List Int), t359))) = some (r1, r2) := H
  have A3 := Aside0.mk A30
  clear A30
  by_cases c4 : t359 = 0
  · rw [if_pos c4] at H
    have c4b0 : (t359 == 0) = true := beq_iff_eq.mpr c4
    have c4b1 : (t359 != 0) = false := bne_eq_false_iff_eq.mpr c4
    clear c4
    by_cases c5 : (l1.length : Int) = (l0.length : Int)
    · rw [if_pos c5] at H
      have c5b0 : ((l1.length : Int) == (l0.length : Int)) = true := beq_iff_eq.mpr c5
      have c5b1 : ((l1.length : Int) != (l0.length : Int)) = false := bne_eq_false_iff_eq.mpr c5
      have c5b2 : (l1.length == l0.length) = true := by first | simpa using c5 | (simp at c5 ⊢; omega)
      clear c5
      have H' := Aside0.mk H
      clear H
      go_enter Tryd.func62, Tryd.ntmps62
      go_wp2_with (first | ((with_reducible refine gate_callee (f := 65) rfl ?_); refine goesL_ (some 10) rfl rfl Tryd.func65 (by kernel_rfl) rfl #[.slice A0 l0.length c0] rfl (by (try simp only [List.map_toArray, List.map_cons, List.map_nil]); first | done | rfl | (simp only [List.length_drop, List.length_take]; rfl)) ?_; (with_reducible refine (metrolabref47_Check.calls k _ _ l0 t359 _ ?side1 ?side2 A3.out).mono ?_); (case side1 => repeat (first | exact HR0.out | (with_reducible refine Kd.C_alloc ?_ _) | (with_reducible refine Kd.C_drewN ?_ _) | (with_reducible refine Kd.C_drew ?_))); (case side2 => exact HC0.out); rintro e w6 ⟨rfl, hb⟩; refine ⟨_, rfl, ?_⟩; have n0_ := Aside0.mk (below_step (by repeat (first | (with_reducible first | exact HB.out | apply below_alloc | apply pw_below_drewN | apply below_drew1) | exact HB.out)) hb); clear HB; have HB := n0_; clear n0_; (try clear hb); (try clear hb2); (try clear hk); (try clear hi)))
      go_loopg [7, 8] k (fun kq v7 v8 w' => ∃ (x7_1 : List Int) (x8_1 : Int), v8 = .int .i64 x8_1 ∧ Aside0 (metrolabref47_Worn.l0 kq l0 l1 x7_1 x8_1 = some (r1, r2)) ∧ Aside0 (kq ≤ k) ∧ Aside0 (Kd.R (Kd.int .i64) 3 w' w.heap.size (fun _ => True) v7 x7_1) ∧ Aside0 (Below w.heap.size w w'))
      case atStart => exact ⟨(([] : List Int)), (0), (by first | rfl | (simp; done) | (simp [*]; done)), H', ⟨Nat.le_refl _⟩, ⟨by first | exact Kd.R_nil _ _ _ _ _ | exact Kd.N_nil _ _ _ _ _ | exact Kd.V_nil _ _ _ _ _ | exact Kd.Q_nil _ _ _ _ _ | exact Kd.S_nil _ _ _ _ _⟩, ⟨by repeat (first | (with_reducible first | exact HB.out | apply below_alloc | apply pw_below_drewN | apply below_drew1) | exact HB.out)⟩⟩
      case round =>
        clear H'
        try clear c1
        try clear p2
        try clear c4
        try clear c4b0
        try clear c4b1
        try clear c5
        try clear c5b0
        try clear c5b1
        try clear c5b2
        try clear c6
        obtain ⟨x7_1, x8_1, rfl, HA, HK1, HO_7, HB⟩ := hrel
        cases gk with
        | zero => exact absurd HA.out (by simp [metrolabref47_Worn.l0])
        | succ k1 =>
          have H := HA.out
          clear HA
          simp only [metrolabref47_Worn.l0] at H
          by_cases c7 : x8_1 < (l1.length : Int)
          · rw [if_pos c7] at H
            have c7b0 : decide (x8_1 < (l1.length : Int)) = true := decide_eq_true c7
            clear c7
            by_cases c8 : 0 ≤ x8_1
            · rw [if_pos c8] at H
              have c8b0 : decide (0 ≤ x8_1) = true := decide_eq_true c8
              clear c8
              replace H := Option.bind_eq_some_iff.mp H
              obtain ⟨t361, A90, H⟩ := H
              replace H : (if t361 = true then (if x8_1 < (l0.length : Int) then (if (!(((rd_T142 l1 x8_1).f0.f0) == ((rd_T27 l0 x8_1).f0.f0)) || (!(((rd_T142 l1 x8_1).f0.f1) == ((rd_T27 l0 x8_1).f0.f1)))) = true then (metrolabref47_Worn.j1 k1 l0 l1 x7_1 x8_1 true) else (metrolabref47_Worn.j1 k1 l0 l1 x7_1 x8_1 (((rd_T142 l1 x8_1).f1) != ((rd_T27 l0 x8_1).f4)))) else (none)) else (some (([] : List Int), 2))) = some (r1, r2) := H
              have A9 := Aside0.mk A90
              clear A90
              by_cases c10 : t361 = true
              · subst c10
                have H1 : (if x8_1 < (l0.length : Int) then (if (!(((rd_T142 l1 x8_1).f0.f0) == ((rd_T27 l0 x8_1).f0.f0)) || (!(((rd_T142 l1 x8_1).f0.f1) == ((rd_T27 l0 x8_1).f0.f1)))) = true then (metrolabref47_Worn.j1 k1 l0 l1 x7_1 x8_1 true) else (metrolabref47_Worn.j1 k1 l0 l1 x7_1 x8_1 (((rd_T142 l1 x8_1).f1) != ((rd_T27 l0 x8_1).f4)))) else (none)) = some (r1, r2) := by rw [if_pos rfl] at H; exact H
                clear H
                have H := H1
                clear H1
                have HC11 := Aside0.mk H
                clear H
                have p360 : 0 ≤ (x8_1 : Int) := of_decide_eq_true (by first | (with_reducible assumption) | assumption)
                have q360 : x8_1 < (l1.length : Int) := of_decide_eq_true (by first | (with_reducible assumption) | assumption)
                obtain ⟨ad360, e360, hx360_0, hx360_1, hx360_2, hx360_3⟩ := at_T142 HR1.out x8_1 p360 q360
                cases e360
                replace hx360_0 := (HB.out.cell (World.block_lt_of_cell? w _ hx360_0)).trans hx360_0
                replace hx360_1 := (HB.out.cell (World.block_lt_of_cell? w _ hx360_1)).trans hx360_1
                replace hx360_2 := (HB.out.cell (World.block_lt_of_cell? w _ hx360_2)).trans hx360_2
                replace hx360_3 := (HB.out.cell (World.block_lt_of_cell? w _ hx360_3)).trans hx360_3
                replace p360 := eq_true p360
                replace q360 := eq_true q360
                go_upto_region 12 with (first | ((with_reducible refine gate_callee (f := 103) rfl ?_); refine goesL_ (some 30) rfl rfl Tryd.func103 (by kernel_rfl) rfl #[.int .i64 ((rd_T142 l1 x8_1).f2)] rfl (by (try simp only [List.map_toArray, List.map_cons, List.map_nil]); first | done | rfl | (simp only [List.length_drop, List.length_take]; rfl)) ?_; (with_reducible refine (metrolabref47_size.calls ((rd_T142 l1 x8_1).f2) true _ A9.out).mono ?_); rintro e w' ⟨rfl, ⟨nd, rfl⟩⟩; refine ⟨_, rfl, ?_⟩))
                (try simp only [Act.put, List.setIfInBounds_toArray, List.set_cons_zero, List.set_cons_succ])
                go_cut [55] (fun v55 wc => ∃ (kq : Nat) (x55_10 : Bool), v55 = .bool x55_10 ∧ Aside0 (metrolabref47_Worn.j1 kq l0 l1 x7_1 x8_1 x55_10 = some (r1, r2)) ∧ Aside0 (kq ≤ k1) ∧ Aside0 (Kd.R (Kd.int .i64) 3 wc w.heap.size (fun _ => True) u7 x7_1) ∧ Aside0 (Below w.heap.size w wc))
                case first =>
                  have H := HC11.out
                  clear HC11
                  by_cases c12 : x8_1 < (l0.length : Int)
                  · rw [if_pos c12] at H
                    have c12b0 : decide (x8_1 < (l0.length : Int)) = true := decide_eq_true c12
                    clear c12
                    (first | rw [c12b0] | (simp only [i64_w, i32_w]; rw [c12b0]) | skip)
                    by_cases c13 : (!(((rd_T142 l1 x8_1).f0.f0) == ((rd_T27 l0 x8_1).f0.f0)) || (!(((rd_T142 l1 x8_1).f0.f1) == ((rd_T27 l0 x8_1).f0.f1)))) = true
                    · rw [if_pos c13] at H
                      have c13b0 : (!(((rd_T142 l1 x8_1).f0.f0) == ((rd_T27 l0 x8_1).f0.f0)) || (!(((rd_T142 l1 x8_1).f0.f1) == ((rd_T27 l0 x8_1).f0.f1)))) = true := c13
                      clear c13
                      have H' := Aside0.mk H
                      clear H
                      try go_wp2
                      have p362 : 0 ≤ (x8_1 : Int) := of_decide_eq_true (by first | (with_reducible assumption) | assumption)
                      have q362 : x8_1 < (l1.length : Int) := of_decide_eq_true (by first | (with_reducible assumption) | assumption)
                      obtain ⟨ad362, e362, hx362_0, hx362_1, hx362_2, hx362_3⟩ := at_T142 HR1.out x8_1 p362 q362
                      have hw362_3 := hx362_3
                      have hw362_2 := hx362_2
                      have hw362_1 := hx362_1
                      have hw362_0 := hx362_0
                      obtain rfl : ad360 = ad362 := (by injection e362)
                      replace hx362_0 := (HB.out.cell (World.block_lt_of_cell? w _ hx362_0)).trans hx362_0
                      replace hx362_1 := (HB.out.cell (World.block_lt_of_cell? w _ hx362_1)).trans hx362_1
                      replace hx362_2 := (HB.out.cell (World.block_lt_of_cell? w _ hx362_2)).trans hx362_2
                      replace hx362_3 := (HB.out.cell (World.block_lt_of_cell? w _ hx362_3)).trans hx362_3
                      replace p362 := eq_true p362
                      replace q362 := eq_true q362
                      have p363 : 0 ≤ (x8_1 : Int) := of_decide_eq_true (by first | (with_reducible assumption) | assumption)
                      have q363 : x8_1 < (l0.length : Int) := of_decide_eq_true (by first | (with_reducible assumption) | assumption)
                      obtain ⟨ad363, e363, hx363_0, hx363_1, hx363_2, hx363_3, hx363_4, hx363_5, hx363_6⟩ := at_T27 HR0.out x8_1 p363 q363
                      have hw363_6 := hx363_6
                      have hw363_5 := hx363_5
                      have hw363_4 := hx363_4
                      have hw363_3 := hx363_3
                      have hw363_2 := hx363_2
                      have hw363_1 := hx363_1
                      have hw363_0 := hx363_0
                      cases e363
                      replace hx363_0 := (HB.out.cell (World.block_lt_of_cell? w _ hx363_0)).trans hx363_0
                      replace hx363_1 := (HB.out.cell (World.block_lt_of_cell? w _ hx363_1)).trans hx363_1
                      replace hx363_2 := (HB.out.cell (World.block_lt_of_cell? w _ hx363_2)).trans hx363_2
                      replace hx363_3 := (HB.out.cell (World.block_lt_of_cell? w _ hx363_3)).trans hx363_3
                      replace hx363_4 := (HB.out.cell (World.block_lt_of_cell? w _ hx363_4)).trans hx363_4
                      replace hx363_5 := (HB.out.cell (World.block_lt_of_cell? w _ hx363_5)).trans hx363_5
                      replace hx363_6 := (HB.out.cell (World.block_lt_of_cell? w _ hx363_6)).trans hx363_6
                      replace p363 := eq_true p363
                      replace q363 := eq_true q363
                      refine start_ (n := 24) (S := fun w' => w'.cell? (ad360.add ((x8_1).toNat * 4)) = some (.int .i64 ((rd_T142 l1 x8_1).f0.f0)) ∧ w'.cell? ⟨(ad360.add ((x8_1).toNat * 4)).block, (ad360.add ((x8_1).toNat * 4)).off + 1, none⟩ = some (.int .i64 ((rd_T142 l1 x8_1).f0.f1)) ∧ w'.cell? ⟨(ad360.add ((x8_1).toNat * 4)).block, (ad360.add ((x8_1).toNat * 4)).off + 2, none⟩ = some (.bool ((rd_T142 l1 x8_1).f1)) ∧ w'.cell? ⟨(ad360.add ((x8_1).toNat * 4)).block, (ad360.add ((x8_1).toNat * 4)).off + 3, none⟩ = some (.int .i64 ((rd_T142 l1 x8_1).f2)) ∧ w'.cell? (ad363.add ((x8_1).toNat * 7)) = some (.int .i64 ((rd_T27 l0 x8_1).f0.f0)) ∧ w'.cell? ⟨(ad363.add ((x8_1).toNat * 7)).block, (ad363.add ((x8_1).toNat * 7)).off + 1, none⟩ = some (.int .i64 ((rd_T27 l0 x8_1).f0.f1)) ∧ w'.cell? ⟨(ad363.add ((x8_1).toNat * 7)).block, (ad363.add ((x8_1).toNat * 7)).off + 2, none⟩ = some (.int .i64 ((rd_T27 l0 x8_1).f1.f0)) ∧ w'.cell? ⟨(ad363.add ((x8_1).toNat * 7)).block, (ad363.add ((x8_1).toNat * 7)).off + 3, none⟩ = some (.int .i64 ((rd_T27 l0 x8_1).f1.f1)) ∧ w'.cell? ⟨(ad363.add ((x8_1).toNat * 7)).block, (ad363.add ((x8_1).toNat * 7)).off + 4, none⟩ = some (.int .i64 ((rd_T27 l0 x8_1).f2)) ∧ w'.cell? ⟨(ad363.add ((x8_1).toNat * 7)).block, (ad363.add ((x8_1).toNat * 7)).off + 5, none⟩ = some (.int .i64 ((rd_T27 l0 x8_1).f3)) ∧ w'.cell? ⟨(ad363.add ((x8_1).toNat * 7)).block, (ad363.add ((x8_1).toNat * 7)).off + 6, none⟩ = some (.bool ((rd_T27 l0 x8_1).f4))) (ds := []) #[false, false, false, false, false, false, false, false, false, false, false, false, false, false, false, false, false, false, false, false, false, false, false, false] (by kernel_rfl) rfl rfl ⟨((HB.out.cell (World.block_lt_of_cell? w _ hw362_0)).trans hw362_0), ((HB.out.cell (World.block_lt_of_cell? w _ hw362_1)).trans hw362_1), ((HB.out.cell (World.block_lt_of_cell? w _ hw362_2)).trans hw362_2), ((HB.out.cell (World.block_lt_of_cell? w _ hw362_3)).trans hw362_3), ((HB.out.cell (World.block_lt_of_cell? w _ hw363_0)).trans hw363_0), ((HB.out.cell (World.block_lt_of_cell? w _ hw363_1)).trans hw363_1), ((HB.out.cell (World.block_lt_of_cell? w _ hw363_2)).trans hw363_2), ((HB.out.cell (World.block_lt_of_cell? w _ hw363_3)).trans hw363_3), ((HB.out.cell (World.block_lt_of_cell? w _ hw363_4)).trans hw363_4), ((HB.out.cell (World.block_lt_of_cell? w _ hw363_5)).trans hw363_5), ((HB.out.cell (World.block_lt_of_cell? w _ hw363_6)).trans hw363_6)⟩ (fun hHeld => ?_); refine with_tabW metrolabref47_Worn.tab12 metrolabref47_Worn.bits12 (fun HT_ HW_ => ?_)
                      refine pure_ (i := 0) (N := some 32) (v := ?_) (a' := ?_) #[true, false, false, false, false, false, false, false, false, false, false, false, false, false, false, false, false, false, false, false, false, false, false, false] rfl rfl (any_of HT_.out (by kernel_rfl)) (fun _ _ _ h => h) (Or.inl ⟨by rfl, ?_⟩) ?_ ?_
                      rotate_left
                      · intro w'
                        go_simp
                        with_reducible rfl
                      rotate_left
                      · simp only [Act.put, List.setIfInBounds_toArray, List.set_cons_zero, List.set_cons_succ, i64_w, i32_w]
                        rfl
                      refine pure_ (i := 1) (N := some 33) (v := ?_) (a' := ?_) #[true, true, false, false, false, false, false, false, false, false, false, false, false, false, false, false, false, false, false, false, false, false, false, false] rfl rfl (any_of HT_.out (by kernel_rfl)) (fun _ _ _ h => h) (Or.inl ⟨by rfl, ?_⟩) ?_ ?_
                      rotate_left
                      · intro w'
                        go_simp
                        with_reducible rfl
                      rotate_left
                      · simp only [Act.put, List.setIfInBounds_toArray, List.set_cons_zero, List.set_cons_succ, i64_w, i32_w]
                        rfl
                      refine pure_ (i := 2) (N := some 34) (v := ?_) (a' := ?_) #[true, true, true, false, false, false, false, false, false, false, false, false, false, false, false, false, false, false, false, false, false, false, false, false] rfl rfl (any_of HT_.out (by kernel_rfl)) (fun _ _ _ h => h) (Or.inl ⟨by rfl, ?_⟩) ?_ ?_
                      rotate_left
                      · intro w'
                        go_simp
                        with_reducible rfl
                      rotate_left
                      · simp only [Act.put, List.setIfInBounds_toArray, List.set_cons_zero, List.set_cons_succ, i64_w, i32_w]
                        rfl
                      refine pure_ (i := 3) (N := some 35) (v := ?_) (a' := ?_) #[true, true, true, true, false, false, false, false, false, false, false, false, false, false, false, false, false, false, false, false, false, false, false, false] rfl rfl (any_of HT_.out (by kernel_rfl)) (fun _ _ _ h => h) (Or.inl ⟨by rfl, ?_⟩) ?_ ?_
                      rotate_left
                      · intro w'
                        go_simp
                        with_reducible rfl
                      rotate_left
                      · simp only [Act.put, List.setIfInBounds_toArray, List.set_cons_zero, List.set_cons_succ, i64_w, i32_w]
                        rfl
                      refine pure_ (i := 5) (N := some 37) (v := ?_) (a' := ?_) #[true, true, true, true, false, true, false, false, false, false, false, false, false, false, false, false, false, false, false, false, false, false, false, false] rfl rfl (any_of HT_.out (by kernel_rfl)) (fun _ _ _ h => h) (Or.inl ⟨by rfl, ?_⟩) ?_ ?_
                      rotate_left
                      · intro w'
                        go_simp
                        with_reducible rfl
                      rotate_left
                      · simp only [Act.put, List.setIfInBounds_toArray, List.set_cons_zero, List.set_cons_succ, i64_w, i32_w]
                        rfl
                      refine pure_ (i := 6) (N := some 38) (v := ?_) (a' := ?_) #[true, true, true, true, false, true, true, false, false, false, false, false, false, false, false, false, false, false, false, false, false, false, false, false] rfl rfl (any_of HT_.out (by kernel_rfl)) (fun _ _ _ h => h) (Or.inl ⟨by rfl, ?_⟩) ?_ ?_
                      rotate_left
                      · intro w'
                        go_simp
                        with_reducible rfl
                      rotate_left
                      · simp only [Act.put, List.setIfInBounds_toArray, List.set_cons_zero, List.set_cons_succ, i64_w, i32_w]
                        rfl
                      refine pure_ (i := 7) (N := some 39) (v := ?_) (a' := ?_) #[true, true, true, true, false, true, true, true, false, false, false, false, false, false, false, false, false, false, false, false, false, false, false, false] rfl rfl (any_of HT_.out (by kernel_rfl)) (fun _ _ _ h => h) (Or.inl ⟨by rfl, ?_⟩) ?_ ?_
                      rotate_left
                      · intro w'
                        go_simp
                        with_reducible rfl
                      rotate_left
                      · simp only [Act.put, List.setIfInBounds_toArray, List.set_cons_zero, List.set_cons_succ, i64_w, i32_w]
                        rfl
                      refine pure_ (i := 8) (N := some 40) (v := ?_) (a' := ?_) #[true, true, true, true, false, true, true, true, true, false, false, false, false, false, false, false, false, false, false, false, false, false, false, false] rfl rfl (any_of HT_.out (by kernel_rfl)) (fun _ _ _ h => h) (Or.inl ⟨by rfl, ?_⟩) ?_ ?_
                      rotate_left
                      · intro w'
                        go_simp
                        with_reducible rfl
                      rotate_left
                      · simp only [Act.put, List.setIfInBounds_toArray, List.set_cons_zero, List.set_cons_succ, i64_w, i32_w]
                        rfl
                      refine take_ (i := 4) (N := some 36) (v := ?_) (a' := ?_) #[true, true, true, true, true, true, true, true, true, false, false, false, false, false, false, false, false, false, false, false, false, false, false, false] rfl rfl (take_ofW HT_.out HW_.out (by kernel_rfl)) (fun _ _ _ h => h) (Or.inl ⟨by rfl, ?_⟩) hHeld ?_ ?_
                      rotate_left
                      · rintro w' ⟨s0, s1, s2, s3, s4, s5, s6, s7, s8, s9, s10⟩
                        go_simp
                        with_reducible rfl
                      rotate_left
                      · simp only [Act.put, List.setIfInBounds_toArray, List.set_cons_zero, List.set_cons_succ, i64_w, i32_w]
                        rfl
                      refine take_ (i := 9) (N := some 41) (v := ?_) (a' := ?_) #[true, true, true, true, true, true, true, true, true, true, false, false, false, false, false, false, false, false, false, false, false, false, false, false] rfl rfl (take_ofW HT_.out HW_.out (by kernel_rfl)) (fun _ _ _ h => h) (Or.inl ⟨by rfl, ?_⟩) hHeld ?_ ?_
                      rotate_left
                      · rintro w' ⟨s0, s1, s2, s3, s4, s5, s6, s7, s8, s9, s10⟩
                        go_simp
                        with_reducible rfl
                      rotate_left
                      · simp only [Act.put, List.setIfInBounds_toArray, List.set_cons_zero, List.set_cons_succ, i64_w, i32_w]
                        rfl
                      refine pure_ (i := 10) (N := some 42) (v := ?_) (a' := ?_) #[true, true, true, true, true, true, true, true, true, true, true, false, false, false, false, false, false, false, false, false, false, false, false, false] rfl rfl (any_of HT_.out (by kernel_rfl)) (fun _ _ _ h => h) (Or.inl ⟨by rfl, ?_⟩) ?_ ?_
                      rotate_left
                      · intro w'
                        go_simp
                        with_reducible rfl
                      rotate_left
                      · simp only [Act.put, List.setIfInBounds_toArray, List.set_cons_zero, List.set_cons_succ, i64_w, i32_w]
                        rfl
                      refine pure_ (i := 11) (N := some 43) (v := ?_) (a' := ?_) #[true, true, true, true, true, true, true, true, true, true, true, true, false, false, false, false, false, false, false, false, false, false, false, false] rfl rfl (any_of HT_.out (by kernel_rfl)) (fun _ _ _ h => h) (Or.inl ⟨by rfl, ?_⟩) ?_ ?_
                      rotate_left
                      · intro w'
                        go_simp
                        with_reducible rfl
                      rotate_left
                      · simp only [Act.put, List.setIfInBounds_toArray, List.set_cons_zero, List.set_cons_succ, i64_w, i32_w]
                        rfl
                      refine pure_ (i := 12) (N := some 44) (v := undef) (a' := ?_) #[true, true, true, true, true, true, true, true, true, true, true, true, true, false, false, false, false, false, false, false, false, false, false, false] rfl rfl (any_of HT_.out (by kernel_rfl)) (fun _ _ _ h => h) (Or.inr ⟨by rfl, rfl⟩) ?_ ?_
                      rotate_left
                      · simp only [Act.put, List.setIfInBounds_toArray, List.set_cons_zero, List.set_cons_succ, i64_w, i32_w]
                        rfl
                      refine pure_ (i := 13) (N := some 45) (v := undef) (a' := ?_) #[true, true, true, true, true, true, true, true, true, true, true, true, true, true, false, false, false, false, false, false, false, false, false, false] rfl rfl (any_of HT_.out (by kernel_rfl)) (fun _ _ _ h => h) (Or.inr ⟨by rfl, rfl⟩) ?_ ?_
                      rotate_left
                      · simp only [Act.put, List.setIfInBounds_toArray, List.set_cons_zero, List.set_cons_succ, i64_w, i32_w]
                        rfl
                      refine pure_ (i := 14) (N := some 46) (v := undef) (a' := ?_) #[true, true, true, true, true, true, true, true, true, true, true, true, true, true, true, false, false, false, false, false, false, false, false, false] rfl rfl (any_of HT_.out (by kernel_rfl)) (fun _ _ _ h => h) (Or.inr ⟨by rfl, rfl⟩) ?_ ?_
                      rotate_left
                      · simp only [Act.put, List.setIfInBounds_toArray, List.set_cons_zero, List.set_cons_succ, i64_w, i32_w]
                        rfl
                      refine pure_ (i := 15) (N := some 47) (v := undef) (a' := ?_) #[true, true, true, true, true, true, true, true, true, true, true, true, true, true, true, true, false, false, false, false, false, false, false, false] rfl rfl (any_of HT_.out (by kernel_rfl)) (fun _ _ _ h => h) (Or.inr ⟨by rfl, rfl⟩) ?_ ?_
                      rotate_left
                      · simp only [Act.put, List.setIfInBounds_toArray, List.set_cons_zero, List.set_cons_succ, i64_w, i32_w]
                        rfl
                      refine pure_ (i := 16) (N := some 48) (v := undef) (a' := ?_) #[true, true, true, true, true, true, true, true, true, true, true, true, true, true, true, true, true, false, false, false, false, false, false, false] rfl rfl (any_of HT_.out (by kernel_rfl)) (fun _ _ _ h => h) (Or.inr ⟨by rfl, rfl⟩) ?_ ?_
                      rotate_left
                      · simp only [Act.put, List.setIfInBounds_toArray, List.set_cons_zero, List.set_cons_succ, i64_w, i32_w]
                        rfl
                      refine pure_ (i := 17) (N := some 49) (v := undef) (a' := ?_) #[true, true, true, true, true, true, true, true, true, true, true, true, true, true, true, true, true, true, false, false, false, false, false, false] rfl rfl (any_of HT_.out (by kernel_rfl)) (fun _ _ _ h => h) (Or.inr ⟨by rfl, rfl⟩) ?_ ?_
                      rotate_left
                      · simp only [Act.put, List.setIfInBounds_toArray, List.set_cons_zero, List.set_cons_succ, i64_w, i32_w]
                        rfl
                      refine pure_ (i := 18) (N := some 50) (v := undef) (a' := ?_) #[true, true, true, true, true, true, true, true, true, true, true, true, true, true, true, true, true, true, true, false, false, false, false, false] rfl rfl (any_of HT_.out (by kernel_rfl)) (fun _ _ _ h => h) (Or.inr ⟨by rfl, rfl⟩) ?_ ?_
                      rotate_left
                      · simp only [Act.put, List.setIfInBounds_toArray, List.set_cons_zero, List.set_cons_succ, i64_w, i32_w]
                        rfl
                      refine pure_ (i := 19) (N := some 51) (v := undef) (a' := ?_) #[true, true, true, true, true, true, true, true, true, true, true, true, true, true, true, true, true, true, true, true, false, false, false, false] rfl rfl (any_of HT_.out (by kernel_rfl)) (fun _ _ _ h => h) (Or.inr ⟨by rfl, rfl⟩) ?_ ?_
                      rotate_left
                      · simp only [Act.put, List.setIfInBounds_toArray, List.set_cons_zero, List.set_cons_succ, i64_w, i32_w]
                        rfl
                      refine pure_ (i := 20) (N := some 52) (v := undef) (a' := ?_) #[true, true, true, true, true, true, true, true, true, true, true, true, true, true, true, true, true, true, true, true, true, false, false, false] rfl rfl (any_of HT_.out (by kernel_rfl)) (fun _ _ _ h => h) (Or.inr ⟨by rfl, rfl⟩) ?_ ?_
                      rotate_left
                      · simp only [Act.put, List.setIfInBounds_toArray, List.set_cons_zero, List.set_cons_succ, i64_w, i32_w]
                        rfl
                      refine pure_ (i := 21) (N := some 53) (v := undef) (a' := ?_) #[true, true, true, true, true, true, true, true, true, true, true, true, true, true, true, true, true, true, true, true, true, true, false, false] rfl rfl (any_of HT_.out (by kernel_rfl)) (fun _ _ _ h => h) (Or.inr ⟨by rfl, rfl⟩) ?_ ?_
                      rotate_left
                      · simp only [Act.put, List.setIfInBounds_toArray, List.set_cons_zero, List.set_cons_succ, i64_w, i32_w]
                        rfl
                      refine pure_ (i := 22) (N := some 54) (v := undef) (a' := ?_) #[true, true, true, true, true, true, true, true, true, true, true, true, true, true, true, true, true, true, true, true, true, true, true, false] rfl rfl (any_of HT_.out (by kernel_rfl)) (fun _ _ _ h => h) (Or.inr ⟨by rfl, rfl⟩) ?_ ?_
                      rotate_left
                      · simp only [Act.put, List.setIfInBounds_toArray, List.set_cons_zero, List.set_cons_succ, i64_w, i32_w]
                        rfl
                      refine pure_ (i := 23) (N := some 55) (v := ?_) (a' := ?_) #[true, true, true, true, true, true, true, true, true, true, true, true, true, true, true, true, true, true, true, true, true, true, true, true] rfl rfl (any_of HT_.out (by kernel_rfl)) (fun _ _ _ h => h) (Or.inl ⟨by rfl, ?_⟩) ?_ ?_
                      rotate_left
                      · intro w'
                        go_simp
                        with_reducible rfl
                      rotate_left
                      · simp only [Act.put, List.setIfInBounds_toArray, List.set_cons_zero, List.set_cons_succ, i64_w, i32_w]
                        rfl
                      refine done_ (done_of HT_.out (by kernel_rfl)) ?_
                      try go_wp2
                      go_meet
                      case rel => exact ⟨_, (true), (by first | rfl | (simp; done) | (simp [*]; done)), H', ⟨by have := HK1.out; first | omega | exact Nat.le_refl _⟩, ⟨by (with_reducible repeat (first | apply Kd.R_alloc | apply Kd.R_drewN | apply Kd.R_drew)); exact HO_7.out⟩, ⟨by repeat (first | (with_reducible first | exact HB.out | apply below_alloc | apply pw_below_drewN | apply below_drew1) | exact HB.out)⟩⟩
                    · rw [if_neg c13] at H
                      have c13b0 : (!(((rd_T142 l1 x8_1).f0.f0) == ((rd_T27 l0 x8_1).f0.f0)) || (!(((rd_T142 l1 x8_1).f0.f1) == ((rd_T27 l0 x8_1).f0.f1)))) = false := by simpa using c13
                      clear c13
                      have H' := Aside0.mk H
                      clear H
                      try go_wp2
                      have p362 : 0 ≤ (x8_1 : Int) := of_decide_eq_true (by first | (with_reducible assumption) | assumption)
                      have q362 : x8_1 < (l1.length : Int) := of_decide_eq_true (by first | (with_reducible assumption) | assumption)
                      obtain ⟨ad362, e362, hx362_0, hx362_1, hx362_2, hx362_3⟩ := at_T142 HR1.out x8_1 p362 q362
                      have hw362_3 := hx362_3
                      have hw362_2 := hx362_2
                      have hw362_1 := hx362_1
                      have hw362_0 := hx362_0
                      obtain rfl : ad360 = ad362 := (by injection e362)
                      replace hx362_0 := (HB.out.cell (World.block_lt_of_cell? w _ hx362_0)).trans hx362_0
                      replace hx362_1 := (HB.out.cell (World.block_lt_of_cell? w _ hx362_1)).trans hx362_1
                      replace hx362_2 := (HB.out.cell (World.block_lt_of_cell? w _ hx362_2)).trans hx362_2
                      replace hx362_3 := (HB.out.cell (World.block_lt_of_cell? w _ hx362_3)).trans hx362_3
                      replace p362 := eq_true p362
                      replace q362 := eq_true q362
                      have p363 : 0 ≤ (x8_1 : Int) := of_decide_eq_true (by first | (with_reducible assumption) | assumption)
                      have q363 : x8_1 < (l0.length : Int) := of_decide_eq_true (by first | (with_reducible assumption) | assumption)
                      obtain ⟨ad363, e363, hx363_0, hx363_1, hx363_2, hx363_3, hx363_4, hx363_5, hx363_6⟩ := at_T27 HR0.out x8_1 p363 q363
                      have hw363_6 := hx363_6
                      have hw363_5 := hx363_5
                      have hw363_4 := hx363_4
                      have hw363_3 := hx363_3
                      have hw363_2 := hx363_2
                      have hw363_1 := hx363_1
                      have hw363_0 := hx363_0
                      cases e363
                      replace hx363_0 := (HB.out.cell (World.block_lt_of_cell? w _ hx363_0)).trans hx363_0
                      replace hx363_1 := (HB.out.cell (World.block_lt_of_cell? w _ hx363_1)).trans hx363_1
                      replace hx363_2 := (HB.out.cell (World.block_lt_of_cell? w _ hx363_2)).trans hx363_2
                      replace hx363_3 := (HB.out.cell (World.block_lt_of_cell? w _ hx363_3)).trans hx363_3
                      replace hx363_4 := (HB.out.cell (World.block_lt_of_cell? w _ hx363_4)).trans hx363_4
                      replace hx363_5 := (HB.out.cell (World.block_lt_of_cell? w _ hx363_5)).trans hx363_5
                      replace hx363_6 := (HB.out.cell (World.block_lt_of_cell? w _ hx363_6)).trans hx363_6
                      replace p363 := eq_true p363
                      replace q363 := eq_true q363
                      have p364 : 0 ≤ (x8_1 : Int) := of_decide_eq_true (by first | (with_reducible assumption) | assumption)
                      have q364 : x8_1 < (l1.length : Int) := of_decide_eq_true (by first | (with_reducible assumption) | assumption)
                      obtain ⟨ad364, e364, hx364_0, hx364_1, hx364_2, hx364_3⟩ := at_T142 HR1.out x8_1 p364 q364
                      have hw364_3 := hx364_3
                      have hw364_2 := hx364_2
                      have hw364_1 := hx364_1
                      have hw364_0 := hx364_0
                      obtain rfl : ad360 = ad364 := (by injection e364)
                      replace hx364_0 := (HB.out.cell (World.block_lt_of_cell? w _ hx364_0)).trans hx364_0
                      replace hx364_1 := (HB.out.cell (World.block_lt_of_cell? w _ hx364_1)).trans hx364_1
                      replace hx364_2 := (HB.out.cell (World.block_lt_of_cell? w _ hx364_2)).trans hx364_2
                      replace hx364_3 := (HB.out.cell (World.block_lt_of_cell? w _ hx364_3)).trans hx364_3
                      replace p364 := eq_true p364
                      replace q364 := eq_true q364
                      have p365 : 0 ≤ (x8_1 : Int) := of_decide_eq_true (by first | (with_reducible assumption) | assumption)
                      have q365 : x8_1 < (l0.length : Int) := of_decide_eq_true (by first | (with_reducible assumption) | assumption)
                      obtain ⟨ad365, e365, hx365_0, hx365_1, hx365_2, hx365_3, hx365_4, hx365_5, hx365_6⟩ := at_T27 HR0.out x8_1 p365 q365
                      have hw365_6 := hx365_6
                      have hw365_5 := hx365_5
                      have hw365_4 := hx365_4
                      have hw365_3 := hx365_3
                      have hw365_2 := hx365_2
                      have hw365_1 := hx365_1
                      have hw365_0 := hx365_0
                      obtain rfl : ad363 = ad365 := (by injection e365)
                      replace hx365_0 := (HB.out.cell (World.block_lt_of_cell? w _ hx365_0)).trans hx365_0
                      replace hx365_1 := (HB.out.cell (World.block_lt_of_cell? w _ hx365_1)).trans hx365_1
                      replace hx365_2 := (HB.out.cell (World.block_lt_of_cell? w _ hx365_2)).trans hx365_2
                      replace hx365_3 := (HB.out.cell (World.block_lt_of_cell? w _ hx365_3)).trans hx365_3
                      replace hx365_4 := (HB.out.cell (World.block_lt_of_cell? w _ hx365_4)).trans hx365_4
                      replace hx365_5 := (HB.out.cell (World.block_lt_of_cell? w _ hx365_5)).trans hx365_5
                      replace hx365_6 := (HB.out.cell (World.block_lt_of_cell? w _ hx365_6)).trans hx365_6
                      replace p365 := eq_true p365
                      replace q365 := eq_true q365
                      refine start_ (n := 24) (S := fun w' => w'.cell? (ad360.add ((x8_1).toNat * 4)) = some (.int .i64 ((rd_T142 l1 x8_1).f0.f0)) ∧ w'.cell? ⟨(ad360.add ((x8_1).toNat * 4)).block, (ad360.add ((x8_1).toNat * 4)).off + 1, none⟩ = some (.int .i64 ((rd_T142 l1 x8_1).f0.f1)) ∧ w'.cell? ⟨(ad360.add ((x8_1).toNat * 4)).block, (ad360.add ((x8_1).toNat * 4)).off + 2, none⟩ = some (.bool ((rd_T142 l1 x8_1).f1)) ∧ w'.cell? ⟨(ad360.add ((x8_1).toNat * 4)).block, (ad360.add ((x8_1).toNat * 4)).off + 3, none⟩ = some (.int .i64 ((rd_T142 l1 x8_1).f2)) ∧ w'.cell? (ad363.add ((x8_1).toNat * 7)) = some (.int .i64 ((rd_T27 l0 x8_1).f0.f0)) ∧ w'.cell? ⟨(ad363.add ((x8_1).toNat * 7)).block, (ad363.add ((x8_1).toNat * 7)).off + 1, none⟩ = some (.int .i64 ((rd_T27 l0 x8_1).f0.f1)) ∧ w'.cell? ⟨(ad363.add ((x8_1).toNat * 7)).block, (ad363.add ((x8_1).toNat * 7)).off + 2, none⟩ = some (.int .i64 ((rd_T27 l0 x8_1).f1.f0)) ∧ w'.cell? ⟨(ad363.add ((x8_1).toNat * 7)).block, (ad363.add ((x8_1).toNat * 7)).off + 3, none⟩ = some (.int .i64 ((rd_T27 l0 x8_1).f1.f1)) ∧ w'.cell? ⟨(ad363.add ((x8_1).toNat * 7)).block, (ad363.add ((x8_1).toNat * 7)).off + 4, none⟩ = some (.int .i64 ((rd_T27 l0 x8_1).f2)) ∧ w'.cell? ⟨(ad363.add ((x8_1).toNat * 7)).block, (ad363.add ((x8_1).toNat * 7)).off + 5, none⟩ = some (.int .i64 ((rd_T27 l0 x8_1).f3)) ∧ w'.cell? ⟨(ad363.add ((x8_1).toNat * 7)).block, (ad363.add ((x8_1).toNat * 7)).off + 6, none⟩ = some (.bool ((rd_T27 l0 x8_1).f4)) ∧ w'.cell? (ad360.add ((x8_1).toNat * 4)) = some (.int .i64 ((rd_T142 l1 x8_1).f0.f0)) ∧ w'.cell? ⟨(ad360.add ((x8_1).toNat * 4)).block, (ad360.add ((x8_1).toNat * 4)).off + 1, none⟩ = some (.int .i64 ((rd_T142 l1 x8_1).f0.f1)) ∧ w'.cell? ⟨(ad360.add ((x8_1).toNat * 4)).block, (ad360.add ((x8_1).toNat * 4)).off + 2, none⟩ = some (.bool ((rd_T142 l1 x8_1).f1)) ∧ w'.cell? ⟨(ad360.add ((x8_1).toNat * 4)).block, (ad360.add ((x8_1).toNat * 4)).off + 3, none⟩ = some (.int .i64 ((rd_T142 l1 x8_1).f2)) ∧ w'.cell? (ad363.add ((x8_1).toNat * 7)) = some (.int .i64 ((rd_T27 l0 x8_1).f0.f0)) ∧ w'.cell? ⟨(ad363.add ((x8_1).toNat * 7)).block, (ad363.add ((x8_1).toNat * 7)).off + 1, none⟩ = some (.int .i64 ((rd_T27 l0 x8_1).f0.f1)) ∧ w'.cell? ⟨(ad363.add ((x8_1).toNat * 7)).block, (ad363.add ((x8_1).toNat * 7)).off + 2, none⟩ = some (.int .i64 ((rd_T27 l0 x8_1).f1.f0)) ∧ w'.cell? ⟨(ad363.add ((x8_1).toNat * 7)).block, (ad363.add ((x8_1).toNat * 7)).off + 3, none⟩ = some (.int .i64 ((rd_T27 l0 x8_1).f1.f1)) ∧ w'.cell? ⟨(ad363.add ((x8_1).toNat * 7)).block, (ad363.add ((x8_1).toNat * 7)).off + 4, none⟩ = some (.int .i64 ((rd_T27 l0 x8_1).f2)) ∧ w'.cell? ⟨(ad363.add ((x8_1).toNat * 7)).block, (ad363.add ((x8_1).toNat * 7)).off + 5, none⟩ = some (.int .i64 ((rd_T27 l0 x8_1).f3)) ∧ w'.cell? ⟨(ad363.add ((x8_1).toNat * 7)).block, (ad363.add ((x8_1).toNat * 7)).off + 6, none⟩ = some (.bool ((rd_T27 l0 x8_1).f4))) (ds := []) #[false, false, false, false, false, false, false, false, false, false, false, false, false, false, false, false, false, false, false, false, false, false, false, false] (by kernel_rfl) rfl rfl ⟨((HB.out.cell (World.block_lt_of_cell? w _ hw362_0)).trans hw362_0), ((HB.out.cell (World.block_lt_of_cell? w _ hw362_1)).trans hw362_1), ((HB.out.cell (World.block_lt_of_cell? w _ hw362_2)).trans hw362_2), ((HB.out.cell (World.block_lt_of_cell? w _ hw362_3)).trans hw362_3), ((HB.out.cell (World.block_lt_of_cell? w _ hw363_0)).trans hw363_0), ((HB.out.cell (World.block_lt_of_cell? w _ hw363_1)).trans hw363_1), ((HB.out.cell (World.block_lt_of_cell? w _ hw363_2)).trans hw363_2), ((HB.out.cell (World.block_lt_of_cell? w _ hw363_3)).trans hw363_3), ((HB.out.cell (World.block_lt_of_cell? w _ hw363_4)).trans hw363_4), ((HB.out.cell (World.block_lt_of_cell? w _ hw363_5)).trans hw363_5), ((HB.out.cell (World.block_lt_of_cell? w _ hw363_6)).trans hw363_6), ((HB.out.cell (World.block_lt_of_cell? w _ hw364_0)).trans hw364_0), ((HB.out.cell (World.block_lt_of_cell? w _ hw364_1)).trans hw364_1), ((HB.out.cell (World.block_lt_of_cell? w _ hw364_2)).trans hw364_2), ((HB.out.cell (World.block_lt_of_cell? w _ hw364_3)).trans hw364_3), ((HB.out.cell (World.block_lt_of_cell? w _ hw365_0)).trans hw365_0), ((HB.out.cell (World.block_lt_of_cell? w _ hw365_1)).trans hw365_1), ((HB.out.cell (World.block_lt_of_cell? w _ hw365_2)).trans hw365_2), ((HB.out.cell (World.block_lt_of_cell? w _ hw365_3)).trans hw365_3), ((HB.out.cell (World.block_lt_of_cell? w _ hw365_4)).trans hw365_4), ((HB.out.cell (World.block_lt_of_cell? w _ hw365_5)).trans hw365_5), ((HB.out.cell (World.block_lt_of_cell? w _ hw365_6)).trans hw365_6)⟩ (fun hHeld => ?_); refine with_tabW metrolabref47_Worn.tab12 metrolabref47_Worn.bits12 (fun HT_ HW_ => ?_)
                      refine pure_ (i := 0) (N := some 32) (v := ?_) (a' := ?_) #[true, false, false, false, false, false, false, false, false, false, false, false, false, false, false, false, false, false, false, false, false, false, false, false] rfl rfl (any_of HT_.out (by kernel_rfl)) (fun _ _ _ h => h) (Or.inl ⟨by rfl, ?_⟩) ?_ ?_
                      rotate_left
                      · intro w'
                        go_simp
                        with_reducible rfl
                      rotate_left
                      · simp only [Act.put, List.setIfInBounds_toArray, List.set_cons_zero, List.set_cons_succ, i64_w, i32_w]
                        rfl
                      refine pure_ (i := 1) (N := some 33) (v := ?_) (a' := ?_) #[true, true, false, false, false, false, false, false, false, false, false, false, false, false, false, false, false, false, false, false, false, false, false, false] rfl rfl (any_of HT_.out (by kernel_rfl)) (fun _ _ _ h => h) (Or.inl ⟨by rfl, ?_⟩) ?_ ?_
                      rotate_left
                      · intro w'
                        go_simp
                        with_reducible rfl
                      rotate_left
                      · simp only [Act.put, List.setIfInBounds_toArray, List.set_cons_zero, List.set_cons_succ, i64_w, i32_w]
                        rfl
                      refine pure_ (i := 2) (N := some 34) (v := ?_) (a' := ?_) #[true, true, true, false, false, false, false, false, false, false, false, false, false, false, false, false, false, false, false, false, false, false, false, false] rfl rfl (any_of HT_.out (by kernel_rfl)) (fun _ _ _ h => h) (Or.inl ⟨by rfl, ?_⟩) ?_ ?_
                      rotate_left
                      · intro w'
                        go_simp
                        with_reducible rfl
                      rotate_left
                      · simp only [Act.put, List.setIfInBounds_toArray, List.set_cons_zero, List.set_cons_succ, i64_w, i32_w]
                        rfl
                      refine pure_ (i := 3) (N := some 35) (v := ?_) (a' := ?_) #[true, true, true, true, false, false, false, false, false, false, false, false, false, false, false, false, false, false, false, false, false, false, false, false] rfl rfl (any_of HT_.out (by kernel_rfl)) (fun _ _ _ h => h) (Or.inl ⟨by rfl, ?_⟩) ?_ ?_
                      rotate_left
                      · intro w'
                        go_simp
                        with_reducible rfl
                      rotate_left
                      · simp only [Act.put, List.setIfInBounds_toArray, List.set_cons_zero, List.set_cons_succ, i64_w, i32_w]
                        rfl
                      refine pure_ (i := 5) (N := some 37) (v := ?_) (a' := ?_) #[true, true, true, true, false, true, false, false, false, false, false, false, false, false, false, false, false, false, false, false, false, false, false, false] rfl rfl (any_of HT_.out (by kernel_rfl)) (fun _ _ _ h => h) (Or.inl ⟨by rfl, ?_⟩) ?_ ?_
                      rotate_left
                      · intro w'
                        go_simp
                        with_reducible rfl
                      rotate_left
                      · simp only [Act.put, List.setIfInBounds_toArray, List.set_cons_zero, List.set_cons_succ, i64_w, i32_w]
                        rfl
                      refine pure_ (i := 6) (N := some 38) (v := ?_) (a' := ?_) #[true, true, true, true, false, true, true, false, false, false, false, false, false, false, false, false, false, false, false, false, false, false, false, false] rfl rfl (any_of HT_.out (by kernel_rfl)) (fun _ _ _ h => h) (Or.inl ⟨by rfl, ?_⟩) ?_ ?_
                      rotate_left
                      · intro w'
                        go_simp
                        with_reducible rfl
                      rotate_left
                      · simp only [Act.put, List.setIfInBounds_toArray, List.set_cons_zero, List.set_cons_succ, i64_w, i32_w]
                        rfl
                      refine pure_ (i := 7) (N := some 39) (v := ?_) (a' := ?_) #[true, true, true, true, false, true, true, true, false, false, false, false, false, false, false, false, false, false, false, false, false, false, false, false] rfl rfl (any_of HT_.out (by kernel_rfl)) (fun _ _ _ h => h) (Or.inl ⟨by rfl, ?_⟩) ?_ ?_
                      rotate_left
                      · intro w'
                        go_simp
                        with_reducible rfl
                      rotate_left
                      · simp only [Act.put, List.setIfInBounds_toArray, List.set_cons_zero, List.set_cons_succ, i64_w, i32_w]
                        rfl
                      refine pure_ (i := 8) (N := some 40) (v := ?_) (a' := ?_) #[true, true, true, true, false, true, true, true, true, false, false, false, false, false, false, false, false, false, false, false, false, false, false, false] rfl rfl (any_of HT_.out (by kernel_rfl)) (fun _ _ _ h => h) (Or.inl ⟨by rfl, ?_⟩) ?_ ?_
                      rotate_left
                      · intro w'
                        go_simp
                        with_reducible rfl
                      rotate_left
                      · simp only [Act.put, List.setIfInBounds_toArray, List.set_cons_zero, List.set_cons_succ, i64_w, i32_w]
                        rfl
                      refine take_ (i := 4) (N := some 36) (v := ?_) (a' := ?_) #[true, true, true, true, true, true, true, true, true, false, false, false, false, false, false, false, false, false, false, false, false, false, false, false] rfl rfl (take_ofW HT_.out HW_.out (by kernel_rfl)) (fun _ _ _ h => h) (Or.inl ⟨by rfl, ?_⟩) hHeld ?_ ?_
                      rotate_left
                      · rintro w' ⟨s0, s1, s2, s3, s4, s5, s6, s7, s8, s9, s10, s11, s12, s13, s14, s15, s16, s17, s18, s19, s20, s21⟩
                        go_simp
                        with_reducible rfl
                      rotate_left
                      · simp only [Act.put, List.setIfInBounds_toArray, List.set_cons_zero, List.set_cons_succ, i64_w, i32_w]
                        rfl
                      refine take_ (i := 9) (N := some 41) (v := ?_) (a' := ?_) #[true, true, true, true, true, true, true, true, true, true, false, false, false, false, false, false, false, false, false, false, false, false, false, false] rfl rfl (take_ofW HT_.out HW_.out (by kernel_rfl)) (fun _ _ _ h => h) (Or.inl ⟨by rfl, ?_⟩) hHeld ?_ ?_
                      rotate_left
                      · rintro w' ⟨s0, s1, s2, s3, s4, s5, s6, s7, s8, s9, s10, s11, s12, s13, s14, s15, s16, s17, s18, s19, s20, s21⟩
                        go_simp
                        with_reducible rfl
                      rotate_left
                      · simp only [Act.put, List.setIfInBounds_toArray, List.set_cons_zero, List.set_cons_succ, i64_w, i32_w]
                        rfl
                      refine pure_ (i := 10) (N := some 42) (v := ?_) (a' := ?_) #[true, true, true, true, true, true, true, true, true, true, true, false, false, false, false, false, false, false, false, false, false, false, false, false] rfl rfl (any_of HT_.out (by kernel_rfl)) (fun _ _ _ h => h) (Or.inl ⟨by rfl, ?_⟩) ?_ ?_
                      rotate_left
                      · intro w'
                        go_simp
                        with_reducible rfl
                      rotate_left
                      · simp only [Act.put, List.setIfInBounds_toArray, List.set_cons_zero, List.set_cons_succ, i64_w, i32_w]
                        rfl
                      refine pure_ (i := 11) (N := some 43) (v := ?_) (a' := ?_) #[true, true, true, true, true, true, true, true, true, true, true, true, false, false, false, false, false, false, false, false, false, false, false, false] rfl rfl (any_of HT_.out (by kernel_rfl)) (fun _ _ _ h => h) (Or.inl ⟨by rfl, ?_⟩) ?_ ?_
                      rotate_left
                      · intro w'
                        go_simp
                        with_reducible rfl
                      rotate_left
                      · simp only [Act.put, List.setIfInBounds_toArray, List.set_cons_zero, List.set_cons_succ, i64_w, i32_w]
                        rfl
                      refine pure_ (i := 12) (N := some 44) (v := ?_) (a' := ?_) #[true, true, true, true, true, true, true, true, true, true, true, true, true, false, false, false, false, false, false, false, false, false, false, false] rfl rfl (any_of HT_.out (by kernel_rfl)) (fun _ _ _ h => h) (Or.inl ⟨by rfl, ?_⟩) ?_ ?_
                      rotate_left
                      · intro w'
                        go_simp
                        with_reducible rfl
                      rotate_left
                      · simp only [Act.put, List.setIfInBounds_toArray, List.set_cons_zero, List.set_cons_succ, i64_w, i32_w]
                        rfl
                      refine pure_ (i := 13) (N := some 45) (v := ?_) (a' := ?_) #[true, true, true, true, true, true, true, true, true, true, true, true, true, true, false, false, false, false, false, false, false, false, false, false] rfl rfl (any_of HT_.out (by kernel_rfl)) (fun _ _ _ h => h) (Or.inl ⟨by rfl, ?_⟩) ?_ ?_
                      rotate_left
                      · intro w'
                        go_simp
                        with_reducible rfl
                      rotate_left
                      · simp only [Act.put, List.setIfInBounds_toArray, List.set_cons_zero, List.set_cons_succ, i64_w, i32_w]
                        rfl
                      refine pure_ (i := 14) (N := some 46) (v := ?_) (a' := ?_) #[true, true, true, true, true, true, true, true, true, true, true, true, true, true, true, false, false, false, false, false, false, false, false, false] rfl rfl (any_of HT_.out (by kernel_rfl)) (fun _ _ _ h => h) (Or.inl ⟨by rfl, ?_⟩) ?_ ?_
                      rotate_left
                      · intro w'
                        go_simp
                        with_reducible rfl
                      rotate_left
                      · simp only [Act.put, List.setIfInBounds_toArray, List.set_cons_zero, List.set_cons_succ, i64_w, i32_w]
                        rfl
                      refine pure_ (i := 15) (N := some 47) (v := ?_) (a' := ?_) #[true, true, true, true, true, true, true, true, true, true, true, true, true, true, true, true, false, false, false, false, false, false, false, false] rfl rfl (any_of HT_.out (by kernel_rfl)) (fun _ _ _ h => h) (Or.inl ⟨by rfl, ?_⟩) ?_ ?_
                      rotate_left
                      · intro w'
                        go_simp
                        with_reducible rfl
                      rotate_left
                      · simp only [Act.put, List.setIfInBounds_toArray, List.set_cons_zero, List.set_cons_succ, i64_w, i32_w]
                        rfl
                      refine pure_ (i := 17) (N := some 49) (v := ?_) (a' := ?_) #[true, true, true, true, true, true, true, true, true, true, true, true, true, true, true, true, false, true, false, false, false, false, false, false] rfl rfl (any_of HT_.out (by kernel_rfl)) (fun _ _ _ h => h) (Or.inl ⟨by rfl, ?_⟩) ?_ ?_
                      rotate_left
                      · intro w'
                        go_simp
                        with_reducible rfl
                      rotate_left
                      · simp only [Act.put, List.setIfInBounds_toArray, List.set_cons_zero, List.set_cons_succ, i64_w, i32_w]
                        rfl
                      refine pure_ (i := 18) (N := some 50) (v := ?_) (a' := ?_) #[true, true, true, true, true, true, true, true, true, true, true, true, true, true, true, true, false, true, true, false, false, false, false, false] rfl rfl (any_of HT_.out (by kernel_rfl)) (fun _ _ _ h => h) (Or.inl ⟨by rfl, ?_⟩) ?_ ?_
                      rotate_left
                      · intro w'
                        go_simp
                        with_reducible rfl
                      rotate_left
                      · simp only [Act.put, List.setIfInBounds_toArray, List.set_cons_zero, List.set_cons_succ, i64_w, i32_w]
                        rfl
                      refine pure_ (i := 19) (N := some 51) (v := ?_) (a' := ?_) #[true, true, true, true, true, true, true, true, true, true, true, true, true, true, true, true, false, true, true, true, false, false, false, false] rfl rfl (any_of HT_.out (by kernel_rfl)) (fun _ _ _ h => h) (Or.inl ⟨by rfl, ?_⟩) ?_ ?_
                      rotate_left
                      · intro w'
                        go_simp
                        with_reducible rfl
                      rotate_left
                      · simp only [Act.put, List.setIfInBounds_toArray, List.set_cons_zero, List.set_cons_succ, i64_w, i32_w]
                        rfl
                      refine pure_ (i := 20) (N := some 52) (v := ?_) (a' := ?_) #[true, true, true, true, true, true, true, true, true, true, true, true, true, true, true, true, false, true, true, true, true, false, false, false] rfl rfl (any_of HT_.out (by kernel_rfl)) (fun _ _ _ h => h) (Or.inl ⟨by rfl, ?_⟩) ?_ ?_
                      rotate_left
                      · intro w'
                        go_simp
                        with_reducible rfl
                      rotate_left
                      · simp only [Act.put, List.setIfInBounds_toArray, List.set_cons_zero, List.set_cons_succ, i64_w, i32_w]
                        rfl
                      refine take_ (i := 16) (N := some 48) (v := ?_) (a' := ?_) #[true, true, true, true, true, true, true, true, true, true, true, true, true, true, true, true, true, true, true, true, true, false, false, false] rfl rfl (take_ofW HT_.out HW_.out (by kernel_rfl)) (fun _ _ _ h => h) (Or.inl ⟨by rfl, ?_⟩) hHeld ?_ ?_
                      rotate_left
                      · rintro w' ⟨s0, s1, s2, s3, s4, s5, s6, s7, s8, s9, s10, s11, s12, s13, s14, s15, s16, s17, s18, s19, s20, s21⟩
                        go_simp
                        with_reducible rfl
                      rotate_left
                      · simp only [Act.put, List.setIfInBounds_toArray, List.set_cons_zero, List.set_cons_succ, i64_w, i32_w]
                        rfl
                      refine take_ (i := 21) (N := some 53) (v := ?_) (a' := ?_) #[true, true, true, true, true, true, true, true, true, true, true, true, true, true, true, true, true, true, true, true, true, true, false, false] rfl rfl (take_ofW HT_.out HW_.out (by kernel_rfl)) (fun _ _ _ h => h) (Or.inl ⟨by rfl, ?_⟩) hHeld ?_ ?_
                      rotate_left
                      · rintro w' ⟨s0, s1, s2, s3, s4, s5, s6, s7, s8, s9, s10, s11, s12, s13, s14, s15, s16, s17, s18, s19, s20, s21⟩
                        go_simp
                        with_reducible rfl
                      rotate_left
                      · simp only [Act.put, List.setIfInBounds_toArray, List.set_cons_zero, List.set_cons_succ, i64_w, i32_w]
                        rfl
                      refine pure_ (i := 22) (N := some 54) (v := ?_) (a' := ?_) #[true, true, true, true, true, true, true, true, true, true, true, true, true, true, true, true, true, true, true, true, true, true, true, false] rfl rfl (any_of HT_.out (by kernel_rfl)) (fun _ _ _ h => h) (Or.inl ⟨by rfl, ?_⟩) ?_ ?_
                      rotate_left
                      · intro w'
                        go_simp
                        with_reducible rfl
                      rotate_left
                      · simp only [Act.put, List.setIfInBounds_toArray, List.set_cons_zero, List.set_cons_succ, i64_w, i32_w]
                        rfl
                      refine pure_ (i := 23) (N := some 55) (v := ?_) (a' := ?_) #[true, true, true, true, true, true, true, true, true, true, true, true, true, true, true, true, true, true, true, true, true, true, true, true] rfl rfl (any_of HT_.out (by kernel_rfl)) (fun _ _ _ h => h) (Or.inl ⟨by rfl, ?_⟩) ?_ ?_
                      rotate_left
                      · intro w'
                        go_simp
                        with_reducible rfl
                      rotate_left
                      · simp only [Act.put, List.setIfInBounds_toArray, List.set_cons_zero, List.set_cons_succ, i64_w, i32_w]
                        rfl
                      refine done_ (done_of HT_.out (by kernel_rfl)) ?_
                      try go_wp2
                      go_meet
                      case rel => exact ⟨_, ((((rd_T142 l1 x8_1).f1) != ((rd_T27 l0 x8_1).f4))), (by first | rfl | (simp; done) | (simp [*]; done)), H', ⟨by have := HK1.out; first | omega | exact Nat.le_refl _⟩, ⟨by (with_reducible repeat (first | apply Kd.R_alloc | apply Kd.R_drewN | apply Kd.R_drew)); exact HO_7.out⟩, ⟨by repeat (first | (with_reducible first | exact HB.out | apply below_alloc | apply pw_below_drewN | apply below_drew1) | exact HB.out)⟩⟩
                  · rw [if_neg c12] at H
                    exact absurd H (by simp)
                case rest =>
                  clear HC11
                  try clear c1
                  try clear p2
                  try clear p3
                  try clear q3
                  try clear hx3
                  try clear c4
                  try clear c4b0
                  try clear c4b1
                  try clear c5
                  try clear c5b0
                  try clear c5b1
                  try clear c5b2
                  try clear c6
                  try clear c7
                  try clear c7b0
                  try clear c8
                  try clear c8b0
                  try clear c10
                  try clear c12
                  try clear c12b0
                  try clear c13
                  try clear c13b0
                  try clear hx360_0
                  try clear hx360_1
                  try clear hx360_2
                  try clear hx360_3
                  try clear hx362_0
                  try clear hx362_1
                  try clear hx362_2
                  try clear hx362_3
                  try clear hx363_0
                  try clear hx363_1
                  try clear hx363_2
                  try clear hx363_3
                  try clear hx363_4
                  try clear hx363_5
                  try clear hx363_6
                  try clear hx364_0
                  try clear hx364_1
                  try clear hx364_2
                  try clear hx364_3
                  try clear hx365_0
                  try clear hx365_1
                  try clear hx365_2
                  try clear hx365_3
                  try clear hx365_4
                  try clear hx365_5
                  try clear hx365_6
                  try clear p2
                  try clear p360
                  try clear p362
                  try clear p363
                  try clear p364
                  try clear p365
                  try clear q360
                  try clear q362
                  try clear q363
                  try clear q364
                  try clear q365
                  obtain ⟨kq, x55_10, rfl, HA, HJ10, HO_7, HB⟩ := hcut
                  cases kq with
                  | zero => exact absurd HA.out (by simp [metrolabref47_Worn.j1])
                  | succ kj10 =>
                    have H := HA.out
                    clear HA
                    simp only [metrolabref47_Worn.j1] at H
                    by_cases c16 : x55_10 = true
                    · subst c16
                      have H1 : (some (([] : List Int), 16)) = some (r1, r2) := by rw [if_pos rfl] at H; exact H
                      clear H
                      have H := H1
                      clear H1
                      simp only [Option.some.injEq, Prod.mk.injEq] at H
                      obtain ⟨rfl, rfl⟩ := H
                      go_wp2
                      go_ret2
                      exact ⟨_, by first | rfl | (simp [errW_none, errW_some] <;> rfl) | (simp [*, errW_none, errW_some] <;> rfl), by first | exact Kd.R_nil _ _ _ _ _ | exact Kd.N_nil _ _ _ _ _ | exact Kd.V_nil _ _ _ _ _ | exact Kd.Q_nil _ _ _ _ _ | exact Kd.S_nil _ _ _ _ _, by repeat (first | (with_reducible first | exact HB.out | apply below_alloc | apply pw_below_drewN | apply below_drew1) | exact HB.out)⟩
                    · replace c16 := Bool.eq_false_iff.mpr c16
                      subst c16
                      have H1 : (if 0 ≤ x8_1 then (if x8_1 < (l0.length : Int) then (if x8_1 < (l1.length : Int) then ((metrolabref47_Beyond.f ((rd_T27 l0 x8_1).f0.f0) ((rd_T27 l0 x8_1).f0.f1) ((rd_T27 l0 x8_1).f1.f0) ((rd_T27 l0 x8_1).f1.f1) ((rd_T27 l0 x8_1).f2) ((rd_T27 l0 x8_1).f3) ((rd_T27 l0 x8_1).f4) ((rd_T142 l1 x8_1).f2)).bind fun t368 => (if t368 = true then (if x7_1.length < 17592186044416 then (metrolabref47_Worn.l0 kj10 l0 l1 (x7_1 ++ [x8_1]) (wrap64 (x8_1 + 1))) else (none)) else (metrolabref47_Worn.l0 kj10 l0 l1 x7_1 (wrap64 (x8_1 + 1))))) else (none)) else (none)) else (none)) = some (r1, r2) := by rw [if_neg (show ¬ (false = true) by decide)] at H; exact H
                      clear H
                      have H := H1
                      clear H1
                      by_cases c17 : 0 ≤ x8_1
                      · rw [if_pos c17] at H
                        have c17b0 : decide (0 ≤ x8_1) = true := decide_eq_true c17
                        clear c17
                        by_cases c18 : x8_1 < (l0.length : Int)
                        · rw [if_pos c18] at H
                          have c18b0 : decide (x8_1 < (l0.length : Int)) = true := decide_eq_true c18
                          clear c18
                          by_cases c19 : x8_1 < (l1.length : Int)
                          · rw [if_pos c19] at H
                            have c19b0 : decide (x8_1 < (l1.length : Int)) = true := decide_eq_true c19
                            clear c19
                            replace H := Option.bind_eq_some_iff.mp H
                            obtain ⟨t368, A200, H⟩ := H
                            replace H : (if t368 = true then (if x7_1.length < 17592186044416 then (metrolabref47_Worn.l0 kj10 l0 l1 (x7_1 ++ [x8_1]) (wrap64 (x8_1 + 1))) else (none)) else (metrolabref47_Worn.l0 kj10 l0 l1 x7_1 (wrap64 (x8_1 + 1)))) = some (r1, r2) := H
                            have A20 := Aside0.mk A200
                            clear A200
                            by_cases c21 : t368 = true
                            · subst c21
                              have H1 : (if x7_1.length < 17592186044416 then (metrolabref47_Worn.l0 kj10 l0 l1 (x7_1 ++ [x8_1]) (wrap64 (x8_1 + 1))) else (none)) = some (r1, r2) := by rw [if_pos rfl] at H; exact H
                              clear H
                              have H := H1
                              clear H1
                              by_cases c22 : x7_1.length < 17592186044416
                              · rw [if_pos c22] at H
                                have LMc22 := Aside0.mk c22
                                clear c22
                                obtain ⟨y369, hy369⟩ : ∃ y_ : List Int, y_ = (x7_1 ++ [x8_1]) := ⟨_, rfl⟩
                                replace H : (metrolabref47_Worn.l0 kj10 l0 l1 y369 (wrap64 (x8_1 + 1))) = some (r1, r2) := by first | (rw [hy369]; with_reducible exact H) | (have H2_ := (Option.bind_some _ _).symm.trans H; rw [hy369]; with_reducible exact H2_) | (have H2_ := (Option.bind_some _ _).symm.trans H; with_reducible exact H2_) | with_reducible exact H | (rw [hy369]; exact H) | exact H
                                have Ny369 := Aside0.mk hy369
                                clear hy369
                                have H' := Aside0.mk H
                                clear H
                                try go_wp2
                                have n0_ := Aside0.mk (Kd.R_drew HO_7.out)
                                have n1_ := Aside0.mk (below_drew1 HB.out)
                                clear HO_7
                                clear HB
                                have HO_7 := n0_
                                have HB := n1_
                                clear n0_ n1_
                                have p366 : 0 ≤ (x8_1 : Int) := of_decide_eq_true (by first | (with_reducible assumption) | assumption)
                                have q366 : x8_1 < (l0.length : Int) := of_decide_eq_true (by first | (with_reducible assumption) | assumption)
                                obtain ⟨ad366, e366, hx366_0, hx366_1, hx366_2, hx366_3, hx366_4, hx366_5, hx366_6⟩ := at_T27 HR0.out x8_1 p366 q366
                                have hw366_6 := hx366_6
                                have hw366_5 := hx366_5
                                have hw366_4 := hx366_4
                                have hw366_3 := hx366_3
                                have hw366_2 := hx366_2
                                have hw366_1 := hx366_1
                                have hw366_0 := hx366_0
                                cases e366
                                replace hx366_0 := (HB.out.cell (World.block_lt_of_cell? w _ hx366_0)).trans hx366_0
                                replace hx366_1 := (HB.out.cell (World.block_lt_of_cell? w _ hx366_1)).trans hx366_1
                                replace hx366_2 := (HB.out.cell (World.block_lt_of_cell? w _ hx366_2)).trans hx366_2
                                replace hx366_3 := (HB.out.cell (World.block_lt_of_cell? w _ hx366_3)).trans hx366_3
                                replace hx366_4 := (HB.out.cell (World.block_lt_of_cell? w _ hx366_4)).trans hx366_4
                                replace hx366_5 := (HB.out.cell (World.block_lt_of_cell? w _ hx366_5)).trans hx366_5
                                replace hx366_6 := (HB.out.cell (World.block_lt_of_cell? w _ hx366_6)).trans hx366_6
                                replace p366 := eq_true p366
                                replace q366 := eq_true q366
                                have p367 : 0 ≤ (x8_1 : Int) := of_decide_eq_true (by first | (with_reducible assumption) | assumption)
                                have q367 : x8_1 < (l1.length : Int) := of_decide_eq_true (by first | (with_reducible assumption) | assumption)
                                obtain ⟨ad367, e367, hx367_0, hx367_1, hx367_2, hx367_3⟩ := at_T142 HR1.out x8_1 p367 q367
                                have hw367_3 := hx367_3
                                have hw367_2 := hx367_2
                                have hw367_1 := hx367_1
                                have hw367_0 := hx367_0
                                obtain rfl : ad360 = ad367 := (by injection e367)
                                replace hx367_0 := (HB.out.cell (World.block_lt_of_cell? w _ hx367_0)).trans hx367_0
                                replace hx367_1 := (HB.out.cell (World.block_lt_of_cell? w _ hx367_1)).trans hx367_1
                                replace hx367_2 := (HB.out.cell (World.block_lt_of_cell? w _ hx367_2)).trans hx367_2
                                replace hx367_3 := (HB.out.cell (World.block_lt_of_cell? w _ hx367_3)).trans hx367_3
                                replace p367 := eq_true p367
                                replace q367 := eq_true q367
                                refine start_ (n := 10) (S := fun w' => w'.cell? (ad366.add ((x8_1).toNat * 7)) = some (.int .i64 ((rd_T27 l0 x8_1).f0.f0)) ∧ w'.cell? ⟨(ad366.add ((x8_1).toNat * 7)).block, (ad366.add ((x8_1).toNat * 7)).off + 1, none⟩ = some (.int .i64 ((rd_T27 l0 x8_1).f0.f1)) ∧ w'.cell? ⟨(ad366.add ((x8_1).toNat * 7)).block, (ad366.add ((x8_1).toNat * 7)).off + 2, none⟩ = some (.int .i64 ((rd_T27 l0 x8_1).f1.f0)) ∧ w'.cell? ⟨(ad366.add ((x8_1).toNat * 7)).block, (ad366.add ((x8_1).toNat * 7)).off + 3, none⟩ = some (.int .i64 ((rd_T27 l0 x8_1).f1.f1)) ∧ w'.cell? ⟨(ad366.add ((x8_1).toNat * 7)).block, (ad366.add ((x8_1).toNat * 7)).off + 4, none⟩ = some (.int .i64 ((rd_T27 l0 x8_1).f2)) ∧ w'.cell? ⟨(ad366.add ((x8_1).toNat * 7)).block, (ad366.add ((x8_1).toNat * 7)).off + 5, none⟩ = some (.int .i64 ((rd_T27 l0 x8_1).f3)) ∧ w'.cell? ⟨(ad366.add ((x8_1).toNat * 7)).block, (ad366.add ((x8_1).toNat * 7)).off + 6, none⟩ = some (.bool ((rd_T27 l0 x8_1).f4)) ∧ w'.cell? (ad360.add ((x8_1).toNat * 4)) = some (.int .i64 ((rd_T142 l1 x8_1).f0.f0)) ∧ w'.cell? ⟨(ad360.add ((x8_1).toNat * 4)).block, (ad360.add ((x8_1).toNat * 4)).off + 1, none⟩ = some (.int .i64 ((rd_T142 l1 x8_1).f0.f1)) ∧ w'.cell? ⟨(ad360.add ((x8_1).toNat * 4)).block, (ad360.add ((x8_1).toNat * 4)).off + 2, none⟩ = some (.bool ((rd_T142 l1 x8_1).f1)) ∧ w'.cell? ⟨(ad360.add ((x8_1).toNat * 4)).block, (ad360.add ((x8_1).toNat * 4)).off + 3, none⟩ = some (.int .i64 ((rd_T142 l1 x8_1).f2))) (ds := []) #[false, false, false, false, false, false, false, false, false, false] (by kernel_rfl) rfl rfl ⟨((HB.out.cell (World.block_lt_of_cell? w _ hw366_0)).trans hw366_0), ((HB.out.cell (World.block_lt_of_cell? w _ hw366_1)).trans hw366_1), ((HB.out.cell (World.block_lt_of_cell? w _ hw366_2)).trans hw366_2), ((HB.out.cell (World.block_lt_of_cell? w _ hw366_3)).trans hw366_3), ((HB.out.cell (World.block_lt_of_cell? w _ hw366_4)).trans hw366_4), ((HB.out.cell (World.block_lt_of_cell? w _ hw366_5)).trans hw366_5), ((HB.out.cell (World.block_lt_of_cell? w _ hw366_6)).trans hw366_6), ((HB.out.cell (World.block_lt_of_cell? w _ hw367_0)).trans hw367_0), ((HB.out.cell (World.block_lt_of_cell? w _ hw367_1)).trans hw367_1), ((HB.out.cell (World.block_lt_of_cell? w _ hw367_2)).trans hw367_2), ((HB.out.cell (World.block_lt_of_cell? w _ hw367_3)).trans hw367_3)⟩ (fun hHeld => ?_); refine with_tabW metrolabref47_Worn.tab14 metrolabref47_Worn.bits14 (fun HT_ HW_ => ?_)
                                generalize wc.drew = w23 at HO_7 HB hx366_0 hx366_1 hx366_2 hx366_3 hx366_4 hx366_5 hx366_6 hx367_0 hx367_1 hx367_2 hx367_3 hHeld ⊢
                                refine pure_ (i := 0) (N := some 56) (v := ?_) (a' := ?_) #[true, false, false, false, false, false, false, false, false, false] rfl rfl (any_of HT_.out (by kernel_rfl)) (fun _ _ _ h => h) (Or.inl ⟨by rfl, ?_⟩) ?_ ?_
                                rotate_left
                                · intro w'
                                  go_simp
                                  with_reducible rfl
                                rotate_left
                                · simp only [Act.put, List.setIfInBounds_toArray, List.set_cons_zero, List.set_cons_succ, i64_w, i32_w]
                                  rfl
                                refine pure_ (i := 1) (N := some 57) (v := ?_) (a' := ?_) #[true, true, false, false, false, false, false, false, false, false] rfl rfl (any_of HT_.out (by kernel_rfl)) (fun _ _ _ h => h) (Or.inl ⟨by rfl, ?_⟩) ?_ ?_
                                rotate_left
                                · intro w'
                                  go_simp
                                  with_reducible rfl
                                rotate_left
                                · simp only [Act.put, List.setIfInBounds_toArray, List.set_cons_zero, List.set_cons_succ, i64_w, i32_w]
                                  rfl
                                refine pure_ (i := 2) (N := some 58) (v := ?_) (a' := ?_) #[true, true, true, false, false, false, false, false, false, false] rfl rfl (any_of HT_.out (by kernel_rfl)) (fun _ _ _ h => h) (Or.inl ⟨by rfl, ?_⟩) ?_ ?_
                                rotate_left
                                · intro w'
                                  go_simp
                                  with_reducible rfl
                                rotate_left
                                · simp only [Act.put, List.setIfInBounds_toArray, List.set_cons_zero, List.set_cons_succ, i64_w, i32_w]
                                  rfl
                                refine pure_ (i := 4) (N := some 60) (v := ?_) (a' := ?_) #[true, true, true, false, true, false, false, false, false, false] rfl rfl (any_of HT_.out (by kernel_rfl)) (fun _ _ _ h => h) (Or.inl ⟨by rfl, ?_⟩) ?_ ?_
                                rotate_left
                                · intro w'
                                  go_simp
                                  with_reducible rfl
                                rotate_left
                                · simp only [Act.put, List.setIfInBounds_toArray, List.set_cons_zero, List.set_cons_succ, i64_w, i32_w]
                                  rfl
                                refine pure_ (i := 5) (N := some 61) (v := ?_) (a' := ?_) #[true, true, true, false, true, true, false, false, false, false] rfl rfl (any_of HT_.out (by kernel_rfl)) (fun _ _ _ h => h) (Or.inl ⟨by rfl, ?_⟩) ?_ ?_
                                rotate_left
                                · intro w'
                                  go_simp
                                  with_reducible rfl
                                rotate_left
                                · simp only [Act.put, List.setIfInBounds_toArray, List.set_cons_zero, List.set_cons_succ, i64_w, i32_w]
                                  rfl
                                refine pure_ (i := 6) (N := some 62) (v := ?_) (a' := ?_) #[true, true, true, false, true, true, true, false, false, false] rfl rfl (any_of HT_.out (by kernel_rfl)) (fun _ _ _ h => h) (Or.inl ⟨by rfl, ?_⟩) ?_ ?_
                                rotate_left
                                · intro w'
                                  go_simp
                                  with_reducible rfl
                                rotate_left
                                · simp only [Act.put, List.setIfInBounds_toArray, List.set_cons_zero, List.set_cons_succ, i64_w, i32_w]
                                  rfl
                                refine pure_ (i := 7) (N := some 63) (v := ?_) (a' := ?_) #[true, true, true, false, true, true, true, true, false, false] rfl rfl (any_of HT_.out (by kernel_rfl)) (fun _ _ _ h => h) (Or.inl ⟨by rfl, ?_⟩) ?_ ?_
                                rotate_left
                                · intro w'
                                  go_simp
                                  with_reducible rfl
                                rotate_left
                                · simp only [Act.put, List.setIfInBounds_toArray, List.set_cons_zero, List.set_cons_succ, i64_w, i32_w]
                                  rfl
                                refine take_ (i := 3) (N := some 59) (v := ?_) (a' := ?_) #[true, true, true, true, true, true, true, true, false, false] rfl rfl (take_ofW HT_.out HW_.out (by kernel_rfl)) (fun _ _ _ h => h) (Or.inl ⟨by rfl, ?_⟩) hHeld ?_ ?_
                                rotate_left
                                · rintro w' ⟨s0, s1, s2, s3, s4, s5, s6, s7, s8, s9, s10⟩
                                  go_simp
                                  with_reducible rfl
                                rotate_left
                                · simp only [Act.put, List.setIfInBounds_toArray, List.set_cons_zero, List.set_cons_succ, i64_w, i32_w]
                                  rfl
                                refine take_ (i := 8) (N := some 64) (v := ?_) (a' := ?_) #[true, true, true, true, true, true, true, true, true, false] rfl rfl (take_ofW HT_.out HW_.out (by kernel_rfl)) (fun _ _ _ h => h) (Or.inl ⟨by rfl, ?_⟩) hHeld ?_ ?_
                                rotate_left
                                · rintro w' ⟨s0, s1, s2, s3, s4, s5, s6, s7, s8, s9, s10⟩
                                  go_simp
                                  with_reducible rfl
                                rotate_left
                                · simp only [Act.put, List.setIfInBounds_toArray, List.set_cons_zero, List.set_cons_succ, i64_w, i32_w]
                                  rfl
                                refine one_ (i := 9) (N := some 65) #[true, true, true, true, true, true, true, true, true, true] rfl rfl (one_of HT_.out (by kernel_rfl)) (by decide) (fun K hK => ?_)
                                refine goes_ Tryd.func102 (by kernel_rfl) rfl #[.agg #[.int .i64 ((rd_T27 l0 x8_1).f0.f0), .int .i64 ((rd_T27 l0 x8_1).f0.f1), .int .i64 ((rd_T27 l0 x8_1).f1.f0), .int .i64 ((rd_T27 l0 x8_1).f1.f1), .int .i64 ((rd_T27 l0 x8_1).f2), .int .i64 ((rd_T27 l0 x8_1).f3), .bool ((rd_T27 l0 x8_1).f4)], .int .i64 ((rd_T142 l1 x8_1).f2)] (by rfl) rfl rfl (by (try simp only [List.map_toArray, List.map_cons, List.map_nil]); first | done | rfl | (simp only [List.length_drop, List.length_take]; rfl)) ?_
                                with_reducible refine (metrolabref47_Beyond.calls ((rd_T27 l0 x8_1).f0.f0) ((rd_T27 l0 x8_1).f0.f1) ((rd_T27 l0 x8_1).f1.f0) ((rd_T27 l0 x8_1).f1.f1) ((rd_T27 l0 x8_1).f2) ((rd_T27 l0 x8_1).f3) ((rd_T27 l0 x8_1).f4) ((rd_T142 l1 x8_1).f2) true _ A20.out).mono ?_
                                rintro e w24 ⟨rfl, hb⟩
                                refine ⟨_, rfl, ?_⟩
                                have n0_ := Aside0.mk (Kd.R_below (by (with_reducible repeat (first | apply Kd.R_alloc | apply Kd.R_drewN | apply Kd.R_drew)); exact HO_7.out) hb)
                                have n1_ := Aside0.mk (below_step (by repeat (first | (with_reducible first | exact HB.out | apply below_alloc | apply pw_below_drewN | apply below_drew1) | exact HB.out)) hb)
                                clear HO_7
                                clear HB
                                have HO_7 := n0_
                                have HB := n1_
                                clear n0_ n1_
                                (try clear hb)
                                (try clear hb2)
                                (try clear hk)
                                (try clear hi)
                                refine hK.out _ _ ⟨((HB.out.cell (World.block_lt_of_cell? w _ hw366_0)).trans hw366_0), ((HB.out.cell (World.block_lt_of_cell? w _ hw366_1)).trans hw366_1), ((HB.out.cell (World.block_lt_of_cell? w _ hw366_2)).trans hw366_2), ((HB.out.cell (World.block_lt_of_cell? w _ hw366_3)).trans hw366_3), ((HB.out.cell (World.block_lt_of_cell? w _ hw366_4)).trans hw366_4), ((HB.out.cell (World.block_lt_of_cell? w _ hw366_5)).trans hw366_5), ((HB.out.cell (World.block_lt_of_cell? w _ hw366_6)).trans hw366_6), ((HB.out.cell (World.block_lt_of_cell? w _ hw367_0)).trans hw367_0), ((HB.out.cell (World.block_lt_of_cell? w _ hw367_1)).trans hw367_1), ((HB.out.cell (World.block_lt_of_cell? w _ hw367_2)).trans hw367_2), ((HB.out.cell (World.block_lt_of_cell? w _ hw367_3)).trans hw367_3)⟩ (fun hHeld => ?_)
                                clear hK K
                                refine norm_ (a' := ?_) ?_ ?_
                                rotate_left
                                · show Act.put _ (some 65) _ = _
                                  simp only [Act.put, List.setIfInBounds_toArray, List.set_cons_zero, List.set_cons_succ, i64_w, i32_w]
                                  rfl
                                refine done_ (done_of HT_.out (by kernel_rfl)) ?_
                                try go_wp2_with (first | ((with_reducible refine gate_builtin (b := .append) (xs := #[.tmp 66, .tmp 68]) rfl ?_); at_builtin; refine Kd.R_append (Kd.int .i64) (w0 := w) w.heap.size rfl (.tmp 66) (.tmp 68) 58 3 (.int .i64 0) 8 rfl Tryd.underlying58 info3 rfl (by decide) (by omega) u7 x7_1 x8_1 [.int .i64 x8_1] (fun _ => True) (fun _ => False) rfl rfl ?aP (fun _ hk => hk.elim) ?aF ?aO ?aB ?aS ?aL ?_; (case aP => exact rfl); (case aB => exact (by repeat (first | (with_reducible first | exact HB.out | apply below_alloc | apply pw_below_drewN | apply below_drew1) | exact HB.out))); (case aF => exact (fun _ _ => trivial)); (case aO => exact (by (with_reducible repeat (first | apply Kd.R_alloc | apply Kd.R_drewN | apply Kd.R_drew)); exact HO_7.out)); (case aS => exact (below_size (by repeat (first | (with_reducible first | exact HB.out | apply below_alloc | apply pw_below_drewN | apply below_drew1) | exact HB.out)))); (case aL => have := LMc22.out; omega); intro v370 w25 ho hb hg hat; rw [← Ny369.out] at ho; have n0_ := Aside0.mk (hb); have n1_ := Aside0.mk (ho); clear HB; clear HO_7; have HB := n0_; have HO371 := n1_; clear n0_ n1_; clear ho hb hg hat))
                                go_roundg kj10
                                case measure => have := HK1.out; have := HJ10.out; omega
                                case rel => exact ⟨(y369), (wrap64 (x8_1 + 1)), (by first | rfl | (simp; done) | (simp [*]; done)), H', ⟨by have := HK1.out; have := HJ10.out; omega⟩, ⟨by (with_reducible repeat (first | apply Kd.R_alloc | apply Kd.R_drewN | apply Kd.R_drew)); exact HO371.out⟩, ⟨by repeat (first | (with_reducible first | exact HB.out | apply below_alloc | apply pw_below_drewN | apply below_drew1) | exact HB.out)⟩⟩
                              · rw [if_neg c22] at H
                                exact absurd H (by simp)
                            · replace c21 := Bool.eq_false_iff.mpr c21
                              subst c21
                              have H1 : (metrolabref47_Worn.l0 kj10 l0 l1 x7_1 (wrap64 (x8_1 + 1))) = some (r1, r2) := by rw [if_neg (show ¬ (false = true) by decide)] at H; exact H
                              clear H
                              have H := H1
                              clear H1
                              have H' := Aside0.mk H
                              clear H
                              try go_wp2
                              have n0_ := Aside0.mk (Kd.R_drew HO_7.out)
                              have n1_ := Aside0.mk (below_drew1 HB.out)
                              clear HO_7
                              clear HB
                              have HO_7 := n0_
                              have HB := n1_
                              clear n0_ n1_
                              have p366 : 0 ≤ (x8_1 : Int) := of_decide_eq_true (by first | (with_reducible assumption) | assumption)
                              have q366 : x8_1 < (l0.length : Int) := of_decide_eq_true (by first | (with_reducible assumption) | assumption)
                              obtain ⟨ad366, e366, hx366_0, hx366_1, hx366_2, hx366_3, hx366_4, hx366_5, hx366_6⟩ := at_T27 HR0.out x8_1 p366 q366
                              have hw366_6 := hx366_6
                              have hw366_5 := hx366_5
                              have hw366_4 := hx366_4
                              have hw366_3 := hx366_3
                              have hw366_2 := hx366_2
                              have hw366_1 := hx366_1
                              have hw366_0 := hx366_0
                              cases e366
                              replace hx366_0 := (HB.out.cell (World.block_lt_of_cell? w _ hx366_0)).trans hx366_0
                              replace hx366_1 := (HB.out.cell (World.block_lt_of_cell? w _ hx366_1)).trans hx366_1
                              replace hx366_2 := (HB.out.cell (World.block_lt_of_cell? w _ hx366_2)).trans hx366_2
                              replace hx366_3 := (HB.out.cell (World.block_lt_of_cell? w _ hx366_3)).trans hx366_3
                              replace hx366_4 := (HB.out.cell (World.block_lt_of_cell? w _ hx366_4)).trans hx366_4
                              replace hx366_5 := (HB.out.cell (World.block_lt_of_cell? w _ hx366_5)).trans hx366_5
                              replace hx366_6 := (HB.out.cell (World.block_lt_of_cell? w _ hx366_6)).trans hx366_6
                              replace p366 := eq_true p366
                              replace q366 := eq_true q366
                              have p367 : 0 ≤ (x8_1 : Int) := of_decide_eq_true (by first | (with_reducible assumption) | assumption)
                              have q367 : x8_1 < (l1.length : Int) := of_decide_eq_true (by first | (with_reducible assumption) | assumption)
                              obtain ⟨ad367, e367, hx367_0, hx367_1, hx367_2, hx367_3⟩ := at_T142 HR1.out x8_1 p367 q367
                              have hw367_3 := hx367_3
                              have hw367_2 := hx367_2
                              have hw367_1 := hx367_1
                              have hw367_0 := hx367_0
                              obtain rfl : ad360 = ad367 := (by injection e367)
                              replace hx367_0 := (HB.out.cell (World.block_lt_of_cell? w _ hx367_0)).trans hx367_0
                              replace hx367_1 := (HB.out.cell (World.block_lt_of_cell? w _ hx367_1)).trans hx367_1
                              replace hx367_2 := (HB.out.cell (World.block_lt_of_cell? w _ hx367_2)).trans hx367_2
                              replace hx367_3 := (HB.out.cell (World.block_lt_of_cell? w _ hx367_3)).trans hx367_3
                              replace p367 := eq_true p367
                              replace q367 := eq_true q367
                              refine start_ (n := 10) (S := fun w' => w'.cell? (ad366.add ((x8_1).toNat * 7)) = some (.int .i64 ((rd_T27 l0 x8_1).f0.f0)) ∧ w'.cell? ⟨(ad366.add ((x8_1).toNat * 7)).block, (ad366.add ((x8_1).toNat * 7)).off + 1, none⟩ = some (.int .i64 ((rd_T27 l0 x8_1).f0.f1)) ∧ w'.cell? ⟨(ad366.add ((x8_1).toNat * 7)).block, (ad366.add ((x8_1).toNat * 7)).off + 2, none⟩ = some (.int .i64 ((rd_T27 l0 x8_1).f1.f0)) ∧ w'.cell? ⟨(ad366.add ((x8_1).toNat * 7)).block, (ad366.add ((x8_1).toNat * 7)).off + 3, none⟩ = some (.int .i64 ((rd_T27 l0 x8_1).f1.f1)) ∧ w'.cell? ⟨(ad366.add ((x8_1).toNat * 7)).block, (ad366.add ((x8_1).toNat * 7)).off + 4, none⟩ = some (.int .i64 ((rd_T27 l0 x8_1).f2)) ∧ w'.cell? ⟨(ad366.add ((x8_1).toNat * 7)).block, (ad366.add ((x8_1).toNat * 7)).off + 5, none⟩ = some (.int .i64 ((rd_T27 l0 x8_1).f3)) ∧ w'.cell? ⟨(ad366.add ((x8_1).toNat * 7)).block, (ad366.add ((x8_1).toNat * 7)).off + 6, none⟩ = some (.bool ((rd_T27 l0 x8_1).f4)) ∧ w'.cell? (ad360.add ((x8_1).toNat * 4)) = some (.int .i64 ((rd_T142 l1 x8_1).f0.f0)) ∧ w'.cell? ⟨(ad360.add ((x8_1).toNat * 4)).block, (ad360.add ((x8_1).toNat * 4)).off + 1, none⟩ = some (.int .i64 ((rd_T142 l1 x8_1).f0.f1)) ∧ w'.cell? ⟨(ad360.add ((x8_1).toNat * 4)).block, (ad360.add ((x8_1).toNat * 4)).off + 2, none⟩ = some (.bool ((rd_T142 l1 x8_1).f1)) ∧ w'.cell? ⟨(ad360.add ((x8_1).toNat * 4)).block, (ad360.add ((x8_1).toNat * 4)).off + 3, none⟩ = some (.int .i64 ((rd_T142 l1 x8_1).f2))) (ds := []) #[false, false, false, false, false, false, false, false, false, false] (by kernel_rfl) rfl rfl ⟨((HB.out.cell (World.block_lt_of_cell? w _ hw366_0)).trans hw366_0), ((HB.out.cell (World.block_lt_of_cell? w _ hw366_1)).trans hw366_1), ((HB.out.cell (World.block_lt_of_cell? w _ hw366_2)).trans hw366_2), ((HB.out.cell (World.block_lt_of_cell? w _ hw366_3)).trans hw366_3), ((HB.out.cell (World.block_lt_of_cell? w _ hw366_4)).trans hw366_4), ((HB.out.cell (World.block_lt_of_cell? w _ hw366_5)).trans hw366_5), ((HB.out.cell (World.block_lt_of_cell? w _ hw366_6)).trans hw366_6), ((HB.out.cell (World.block_lt_of_cell? w _ hw367_0)).trans hw367_0), ((HB.out.cell (World.block_lt_of_cell? w _ hw367_1)).trans hw367_1), ((HB.out.cell (World.block_lt_of_cell? w _ hw367_2)).trans hw367_2), ((HB.out.cell (World.block_lt_of_cell? w _ hw367_3)).trans hw367_3)⟩ (fun hHeld => ?_); refine with_tabW metrolabref47_Worn.tab14 metrolabref47_Worn.bits14 (fun HT_ HW_ => ?_)
                              generalize wc.drew = w26 at HO_7 HB hx366_0 hx366_1 hx366_2 hx366_3 hx366_4 hx366_5 hx366_6 hx367_0 hx367_1 hx367_2 hx367_3 hHeld ⊢
                              refine pure_ (i := 0) (N := some 56) (v := ?_) (a' := ?_) #[true, false, false, false, false, false, false, false, false, false] rfl rfl (any_of HT_.out (by kernel_rfl)) (fun _ _ _ h => h) (Or.inl ⟨by rfl, ?_⟩) ?_ ?_
                              rotate_left
                              · intro w'
                                go_simp
                                with_reducible rfl
                              rotate_left
                              · simp only [Act.put, List.setIfInBounds_toArray, List.set_cons_zero, List.set_cons_succ, i64_w, i32_w]
                                rfl
                              refine pure_ (i := 1) (N := some 57) (v := ?_) (a' := ?_) #[true, true, false, false, false, false, false, false, false, false] rfl rfl (any_of HT_.out (by kernel_rfl)) (fun _ _ _ h => h) (Or.inl ⟨by rfl, ?_⟩) ?_ ?_
                              rotate_left
                              · intro w'
                                go_simp
                                with_reducible rfl
                              rotate_left
                              · simp only [Act.put, List.setIfInBounds_toArray, List.set_cons_zero, List.set_cons_succ, i64_w, i32_w]
                                rfl
                              refine pure_ (i := 2) (N := some 58) (v := ?_) (a' := ?_) #[true, true, true, false, false, false, false, false, false, false] rfl rfl (any_of HT_.out (by kernel_rfl)) (fun _ _ _ h => h) (Or.inl ⟨by rfl, ?_⟩) ?_ ?_
                              rotate_left
                              · intro w'
                                go_simp
                                with_reducible rfl
                              rotate_left
                              · simp only [Act.put, List.setIfInBounds_toArray, List.set_cons_zero, List.set_cons_succ, i64_w, i32_w]
                                rfl
                              refine pure_ (i := 4) (N := some 60) (v := ?_) (a' := ?_) #[true, true, true, false, true, false, false, false, false, false] rfl rfl (any_of HT_.out (by kernel_rfl)) (fun _ _ _ h => h) (Or.inl ⟨by rfl, ?_⟩) ?_ ?_
                              rotate_left
                              · intro w'
                                go_simp
                                with_reducible rfl
                              rotate_left
                              · simp only [Act.put, List.setIfInBounds_toArray, List.set_cons_zero, List.set_cons_succ, i64_w, i32_w]
                                rfl
                              refine pure_ (i := 5) (N := some 61) (v := ?_) (a' := ?_) #[true, true, true, false, true, true, false, false, false, false] rfl rfl (any_of HT_.out (by kernel_rfl)) (fun _ _ _ h => h) (Or.inl ⟨by rfl, ?_⟩) ?_ ?_
                              rotate_left
                              · intro w'
                                go_simp
                                with_reducible rfl
                              rotate_left
                              · simp only [Act.put, List.setIfInBounds_toArray, List.set_cons_zero, List.set_cons_succ, i64_w, i32_w]
                                rfl
                              refine pure_ (i := 6) (N := some 62) (v := ?_) (a' := ?_) #[true, true, true, false, true, true, true, false, false, false] rfl rfl (any_of HT_.out (by kernel_rfl)) (fun _ _ _ h => h) (Or.inl ⟨by rfl, ?_⟩) ?_ ?_
                              rotate_left
                              · intro w'
                                go_simp
                                with_reducible rfl
                              rotate_left
                              · simp only [Act.put, List.setIfInBounds_toArray, List.set_cons_zero, List.set_cons_succ, i64_w, i32_w]
                                rfl
                              refine pure_ (i := 7) (N := some 63) (v := ?_) (a' := ?_) #[true, true, true, false, true, true, true, true, false, false] rfl rfl (any_of HT_.out (by kernel_rfl)) (fun _ _ _ h => h) (Or.inl ⟨by rfl, ?_⟩) ?_ ?_
                              rotate_left
                              · intro w'
                                go_simp
                                with_reducible rfl
                              rotate_left
                              · simp only [Act.put, List.setIfInBounds_toArray, List.set_cons_zero, List.set_cons_succ, i64_w, i32_w]
                                rfl
                              refine take_ (i := 3) (N := some 59) (v := ?_) (a' := ?_) #[true, true, true, true, true, true, true, true, false, false] rfl rfl (take_ofW HT_.out HW_.out (by kernel_rfl)) (fun _ _ _ h => h) (Or.inl ⟨by rfl, ?_⟩) hHeld ?_ ?_
                              rotate_left
                              · rintro w' ⟨s0, s1, s2, s3, s4, s5, s6, s7, s8, s9, s10⟩
                                go_simp
                                with_reducible rfl
                              rotate_left
                              · simp only [Act.put, List.setIfInBounds_toArray, List.set_cons_zero, List.set_cons_succ, i64_w, i32_w]
                                rfl
                              refine take_ (i := 8) (N := some 64) (v := ?_) (a' := ?_) #[true, true, true, true, true, true, true, true, true, false] rfl rfl (take_ofW HT_.out HW_.out (by kernel_rfl)) (fun _ _ _ h => h) (Or.inl ⟨by rfl, ?_⟩) hHeld ?_ ?_
                              rotate_left
                              · rintro w' ⟨s0, s1, s2, s3, s4, s5, s6, s7, s8, s9, s10⟩
                                go_simp
                                with_reducible rfl
                              rotate_left
                              · simp only [Act.put, List.setIfInBounds_toArray, List.set_cons_zero, List.set_cons_succ, i64_w, i32_w]
                                rfl
                              refine one_ (i := 9) (N := some 65) #[true, true, true, true, true, true, true, true, true, true] rfl rfl (one_of HT_.out (by kernel_rfl)) (by decide) (fun K hK => ?_)
                              refine goes_ Tryd.func102 (by kernel_rfl) rfl #[.agg #[.int .i64 ((rd_T27 l0 x8_1).f0.f0), .int .i64 ((rd_T27 l0 x8_1).f0.f1), .int .i64 ((rd_T27 l0 x8_1).f1.f0), .int .i64 ((rd_T27 l0 x8_1).f1.f1), .int .i64 ((rd_T27 l0 x8_1).f2), .int .i64 ((rd_T27 l0 x8_1).f3), .bool ((rd_T27 l0 x8_1).f4)], .int .i64 ((rd_T142 l1 x8_1).f2)] (by rfl) rfl rfl (by (try simp only [List.map_toArray, List.map_cons, List.map_nil]); first | done | rfl | (simp only [List.length_drop, List.length_take]; rfl)) ?_
                              with_reducible refine (metrolabref47_Beyond.calls ((rd_T27 l0 x8_1).f0.f0) ((rd_T27 l0 x8_1).f0.f1) ((rd_T27 l0 x8_1).f1.f0) ((rd_T27 l0 x8_1).f1.f1) ((rd_T27 l0 x8_1).f2) ((rd_T27 l0 x8_1).f3) ((rd_T27 l0 x8_1).f4) ((rd_T142 l1 x8_1).f2) false _ A20.out).mono ?_
                              rintro e w27 ⟨rfl, hb⟩
                              refine ⟨_, rfl, ?_⟩
                              have n0_ := Aside0.mk (Kd.R_below (by (with_reducible repeat (first | apply Kd.R_alloc | apply Kd.R_drewN | apply Kd.R_drew)); exact HO_7.out) hb)
                              have n1_ := Aside0.mk (below_step (by repeat (first | (with_reducible first | exact HB.out | apply below_alloc | apply pw_below_drewN | apply below_drew1) | exact HB.out)) hb)
                              clear HO_7
                              clear HB
                              have HO_7 := n0_
                              have HB := n1_
                              clear n0_ n1_
                              (try clear hb)
                              (try clear hb2)
                              (try clear hk)
                              (try clear hi)
                              refine hK.out _ _ ⟨((HB.out.cell (World.block_lt_of_cell? w _ hw366_0)).trans hw366_0), ((HB.out.cell (World.block_lt_of_cell? w _ hw366_1)).trans hw366_1), ((HB.out.cell (World.block_lt_of_cell? w _ hw366_2)).trans hw366_2), ((HB.out.cell (World.block_lt_of_cell? w _ hw366_3)).trans hw366_3), ((HB.out.cell (World.block_lt_of_cell? w _ hw366_4)).trans hw366_4), ((HB.out.cell (World.block_lt_of_cell? w _ hw366_5)).trans hw366_5), ((HB.out.cell (World.block_lt_of_cell? w _ hw366_6)).trans hw366_6), ((HB.out.cell (World.block_lt_of_cell? w _ hw367_0)).trans hw367_0), ((HB.out.cell (World.block_lt_of_cell? w _ hw367_1)).trans hw367_1), ((HB.out.cell (World.block_lt_of_cell? w _ hw367_2)).trans hw367_2), ((HB.out.cell (World.block_lt_of_cell? w _ hw367_3)).trans hw367_3)⟩ (fun hHeld => ?_)
                              clear hK K
                              refine norm_ (a' := ?_) ?_ ?_
                              rotate_left
                              · show Act.put _ (some 65) _ = _
                                simp only [Act.put, List.setIfInBounds_toArray, List.set_cons_zero, List.set_cons_succ, i64_w, i32_w]
                                rfl
                              refine done_ (done_of HT_.out (by kernel_rfl)) ?_
                              try go_wp2
                              go_roundg kj10
                              case measure => have := HK1.out; have := HJ10.out; omega
                              case rel => exact ⟨(x7_1), (wrap64 (x8_1 + 1)), (by first | rfl | (simp; done) | (simp [*]; done)), H', ⟨by have := HK1.out; have := HJ10.out; omega⟩, ⟨by (with_reducible repeat (first | apply Kd.R_alloc | apply Kd.R_drewN | apply Kd.R_drew)); exact HO_7.out⟩, ⟨by repeat (first | (with_reducible first | exact HB.out | apply below_alloc | apply pw_below_drewN | apply below_drew1) | exact HB.out)⟩⟩
                          · rw [if_neg c19] at H
                            exact absurd H (by simp)
                        · rw [if_neg c18] at H
                          exact absurd H (by simp)
                      · rw [if_neg c17] at H
                        exact absurd H (by simp)
              · replace c10 := Bool.eq_false_iff.mpr c10
                subst c10
                have H1 : (some (([] : List Int), 2)) = some (r1, r2) := by rw [if_neg (show ¬ (false = true) by decide)] at H; exact H
                clear H
                have H := H1
                clear H1
                simp only [Option.some.injEq, Prod.mk.injEq] at H
                obtain ⟨rfl, rfl⟩ := H
                have p360 : 0 ≤ (x8_1 : Int) := of_decide_eq_true (by first | (with_reducible assumption) | assumption)
                have q360 : x8_1 < (l1.length : Int) := of_decide_eq_true (by first | (with_reducible assumption) | assumption)
                obtain ⟨ad360, e360, hx360_0, hx360_1, hx360_2, hx360_3⟩ := at_T142 HR1.out x8_1 p360 q360
                cases e360
                replace hx360_0 := (HB.out.cell (World.block_lt_of_cell? w _ hx360_0)).trans hx360_0
                replace hx360_1 := (HB.out.cell (World.block_lt_of_cell? w _ hx360_1)).trans hx360_1
                replace hx360_2 := (HB.out.cell (World.block_lt_of_cell? w _ hx360_2)).trans hx360_2
                replace hx360_3 := (HB.out.cell (World.block_lt_of_cell? w _ hx360_3)).trans hx360_3
                replace p360 := eq_true p360
                replace q360 := eq_true q360
                go_wp2_with (first | ((with_reducible refine gate_callee (f := 103) rfl ?_); refine goesL_ (some 30) rfl rfl Tryd.func103 (by kernel_rfl) rfl #[.int .i64 ((rd_T142 l1 x8_1).f2)] rfl (by (try simp only [List.map_toArray, List.map_cons, List.map_nil]); first | done | rfl | (simp only [List.length_drop, List.length_take]; rfl)) ?_; (with_reducible refine (metrolabref47_size.calls ((rd_T142 l1 x8_1).f2) false _ A9.out).mono ?_); rintro e w' ⟨rfl, ⟨nd, rfl⟩⟩; refine ⟨_, rfl, ?_⟩))
                go_ret2
                exact ⟨_, by first | rfl | (simp [errW_none, errW_some] <;> rfl) | (simp [*, errW_none, errW_some] <;> rfl), by first | exact Kd.R_nil _ _ _ _ _ | exact Kd.N_nil _ _ _ _ _ | exact Kd.V_nil _ _ _ _ _ | exact Kd.Q_nil _ _ _ _ _ | exact Kd.S_nil _ _ _ _ _, by repeat (first | (with_reducible first | exact HB.out | apply below_alloc | apply pw_below_drewN | apply below_drew1) | exact HB.out)⟩
            · rw [if_neg c8] at H
              exact absurd H (by simp)
          · rw [if_neg c7] at H
            have c7b0 : decide (x8_1 < (l1.length : Int)) = false := decide_eq_false c7
            clear c7
            simp only [Option.some.injEq, Prod.mk.injEq] at H
            obtain ⟨rfl, rfl⟩ := H
            go_wp2
            go_ret2
            exact ⟨_, by first | rfl | (simp [errW_none, errW_some] <;> rfl) | (simp [*, errW_none, errW_some] <;> rfl), by (with_reducible repeat (first | apply Kd.R_alloc | apply Kd.R_drewN | apply Kd.R_drew)); exact HO_7.out, by repeat (first | (with_reducible first | exact HB.out | apply below_alloc | apply pw_below_drewN | apply below_drew1) | exact HB.out)⟩
    · rw [if_neg c5] at H
      have c5b0 : ((l1.length : Int) == (l0.length : Int)) = false := beq_eq_false_iff_ne.mpr c5
      have c5b1 : ((l1.length : Int) != (l0.length : Int)) = true := bne_iff_ne.mpr c5
      have c5b2 : (l1.length == l0.length) = false := by first | simpa using c5 | (simp at c5 ⊢; omega)
      simp only [Option.some.injEq, Prod.mk.injEq] at H
      obtain ⟨rfl, rfl⟩ := H
      go_enter Tryd.func62, Tryd.ntmps62
      go_wp2_with (first | ((with_reducible refine gate_callee (f := 65) rfl ?_); refine goesL_ (some 10) rfl rfl Tryd.func65 (by kernel_rfl) rfl #[.slice A0 l0.length c0] rfl (by (try simp only [List.map_toArray, List.map_cons, List.map_nil]); first | done | rfl | (simp only [List.length_drop, List.length_take]; rfl)) ?_; (with_reducible refine (metrolabref47_Check.calls k _ _ l0 t359 _ ?side1 ?side2 A3.out).mono ?_); (case side1 => repeat (first | exact HR0.out | (with_reducible refine Kd.C_alloc ?_ _) | (with_reducible refine Kd.C_drewN ?_ _) | (with_reducible refine Kd.C_drew ?_))); (case side2 => exact HC0.out); rintro e w28 ⟨rfl, hb⟩; refine ⟨_, rfl, ?_⟩; have n0_ := Aside0.mk (below_step (by repeat (first | (with_reducible first | exact HB.out | apply below_alloc | apply pw_below_drewN | apply below_drew1) | exact HB.out)) hb); clear HB; have HB := n0_; clear n0_; (try clear hb); (try clear hb2); (try clear hk); (try clear hi)))
      go_ret2
      exact ⟨_, by first | rfl | (simp [errW_none, errW_some] <;> rfl) | (simp [*, errW_none, errW_some] <;> rfl), by first | exact Kd.R_nil _ _ _ _ _ | exact Kd.N_nil _ _ _ _ _ | exact Kd.V_nil _ _ _ _ _ | exact Kd.Q_nil _ _ _ _ _ | exact Kd.S_nil _ _ _ _ _, by repeat (first | (with_reducible first | exact HB.out | apply below_alloc | apply pw_below_drewN | apply below_drew1) | exact HB.out)⟩
  · rw [if_neg c4] at H
    have c4b0 : (t359 == 0) = false := beq_eq_false_iff_ne.mpr c4
    have c4b1 : (t359 != 0) = true := bne_iff_ne.mpr c4
    simp only [Option.some.injEq, Prod.mk.injEq] at H
    obtain ⟨rfl, rfl⟩ := H
    go_enter Tryd.func62, Tryd.ntmps62
    go_wp2_with (first | ((with_reducible refine gate_callee (f := 65) rfl ?_); refine goesL_ (some 10) rfl rfl Tryd.func65 (by kernel_rfl) rfl #[.slice A0 l0.length c0] rfl (by (try simp only [List.map_toArray, List.map_cons, List.map_nil]); first | done | rfl | (simp only [List.length_drop, List.length_take]; rfl)) ?_; (with_reducible refine (metrolabref47_Check.calls k _ _ l0 t359 _ ?side1 ?side2 A3.out).mono ?_); (case side1 => repeat (first | exact HR0.out | (with_reducible refine Kd.C_alloc ?_ _) | (with_reducible refine Kd.C_drewN ?_ _) | (with_reducible refine Kd.C_drew ?_))); (case side2 => exact HC0.out); rintro e w29 ⟨rfl, hb⟩; refine ⟨_, rfl, ?_⟩; have n0_ := Aside0.mk (below_step (by repeat (first | (with_reducible first | exact HB.out | apply below_alloc | apply pw_below_drewN | apply below_drew1) | exact HB.out)) hb); clear HB; have HB := n0_; clear n0_; (try clear hb); (try clear hb2); (try clear hk); (try clear hi)))
    go_ret2
    exact ⟨_, by first | rfl | (simp [errW_none, errW_some] <;> rfl) | (simp [*, errW_none, errW_some] <;> rfl), by first | exact Kd.R_nil _ _ _ _ _ | exact Kd.N_nil _ _ _ _ _ | exact Kd.V_nil _ _ _ _ _ | exact Kd.Q_nil _ _ _ _ _ | exact Kd.S_nil _ _ _ _ _, by repeat (first | (with_reducible first | exact HB.out | apply below_alloc | apply pw_below_drewN | apply below_drew1) | exact HB.out)⟩
end Go.Proofs.YtjemaonejkepcaaDoor.G
namespace Go.Proofs.YtjemaonejkepcaaDoor.G
open Go.Proofs.YtjemaonejkepcaaDoor.B
open Go.RowKit Go.Proofs.YtjemaonejkepcaaDoorW.PrintWords Go.Proofs.YtjemaonejkepcaaDoorW.PrintLast Go.Proofs.YtjemaonejkepcaaDoorW.PrintMore
attribute [local go_sem] max2_int min2_int max_two min_two max_three min_three max_four min_four   -- for this text's walks alone
set_option linter.unusedVariables false
set_option linter.unusedSimpArgs false
def metrolablaw47_GaugeWears.j0 : Nat → List (S27) → List (S56) → Bool → Option (Bool)
  | 0, _, _, _ => none
  | k + 1, x0, x1, x16 => if x16 = true then ((metrolablaw47_awake.f k).bind fun t373 => (some t373)) else ((gauge_Worn.f k x0 x1).bind fun bt374 => ((metrolablaw47_tools.f k x1).bind fun t378 => ((metrolabref47_Worn.f k x0 t378).bind fun bt381 => ((slices_Equal_int_int.f k bt374.1 bt381.1).bind fun t385 => (if t385 = true then (if bt374.2 = bt381.2 then ((metrolablaw47_awake.f k).bind fun t386 => (some t386)) else (some false)) else (some false))))))
def metrolablaw47_GaugeWears.f (k : Nat) (l0 : List (S27)) (l1 : List (S56)) : Option (Bool) := (metrolablaw47_few.f l0).bind fun t372 => (if t372 = true then (metrolablaw47_GaugeWears.j0 k l0 l1 (decide ((l1.length : Int) > 40))) else (metrolablaw47_GaugeWears.j0 k l0 l1 true))
theorem metrolablaw47_GaugeWears.mono_l : ∀ k, (∀ y0 y1 y2, LeO (metrolablaw47_GaugeWears.j0 k y0 y1 y2) (metrolablaw47_GaugeWears.j0 (k + 1) y0 y1 y2))
  | 0 => fun _ _ _ r h => by simp [metrolablaw47_GaugeWears.j0] at h
  | k + 1 => by
    have ih0 := metrolablaw47_GaugeWears.mono_l k
    · intro y0 y1 y2
      unfold metrolablaw47_GaugeWears.j0
      repeat' first
      | (with_reducible exact ih0 _ _ _)
      | (with_reducible exact gauge_Worn.mono _ _ _)
      | (with_reducible exact metrolablaw47_awake.mono _)
      | (with_reducible exact metrolablaw47_tools.mono _ _)
      | (with_reducible exact metrolabref47_Worn.mono _ _ _)
      | (with_reducible exact slices_Equal_int_int.mono _ _ _)
      | (with_reducible exact LeO.refl _)
      | (with_reducible exact LeO.none _)
      | (with_reducible refine LeO.ite ?_ ?_)
      | (with_reducible refine LeO.bind ?_ (fun _ => ?_))
      | exact ih0 _ _ _
      | exact gauge_Worn.mono _ _ _
      | exact metrolablaw47_awake.mono _
      | exact metrolablaw47_tools.mono _ _
      | exact metrolabref47_Worn.mono _ _ _
      | exact slices_Equal_int_int.mono _ _ _
      | exact LeO.none _
      | refine LeO.ite ?_ ?_
      | refine LeO.bind ?_ (fun _ => ?_)
theorem metrolablaw47_GaugeWears.mono : ∀ a0 a1 k, LeO (metrolablaw47_GaugeWears.f k a0 a1) (metrolablaw47_GaugeWears.f (k + 1) a0 a1) := by
  intro a0 a1 k
  have ih0 := metrolablaw47_GaugeWears.mono_l k
  unfold metrolablaw47_GaugeWears.f
  repeat' first
      | (with_reducible exact ih0 _ _ _)
      | (with_reducible exact gauge_Worn.mono _ _ _)
      | (with_reducible exact metrolablaw47_awake.mono _)
      | (with_reducible exact metrolablaw47_tools.mono _ _)
      | (with_reducible exact metrolabref47_Worn.mono _ _ _)
      | (with_reducible exact slices_Equal_int_int.mono _ _ _)
      | (with_reducible exact LeO.refl _)
      | (with_reducible exact LeO.none _)
      | (with_reducible refine LeO.ite ?_ ?_)
      | (with_reducible refine LeO.bind ?_ (fun _ => ?_))
      | exact ih0 _ _ _
      | exact gauge_Worn.mono _ _ _
      | exact metrolablaw47_awake.mono _
      | exact metrolablaw47_tools.mono _ _
      | exact metrolabref47_Worn.mono _ _ _
      | exact slices_Equal_int_int.mono _ _ _
      | exact LeO.none _
      | refine LeO.ite ?_ ?_
      | refine LeO.bind ?_ (fun _ => ?_)
set_option maxHeartbeats 8000000 in
set_option maxRecDepth 100000 in
theorem metrolablaw47_GaugeWears.calls (k : Nat) (A0 : Option Addr) (c0 : Nat) (l0 : List (S27)) (A1 : Option Addr) (c1 : Nat) (l1 : List (S56)) (r : Bool) (w : World) (hr0 : Kd.C k27 w A0 l0.length l0) (hc0 : l0.length ≤ c0) (hr1 : Kd.C k56 w A1 l1.length l1) (hc1 : l1.length ≤ c1) (h : metrolablaw47_GaugeWears.f k l0 l1 = some r) (hS : SignsAt w) :
    Calls Tryd.prog 15 #[.slice A0 l0.length c0, .slice A1 l1.length c1] w fun e w' => e = .returned (.bool r) ∧ Below w.heap.size w w' := by
  have HS := Aside0.mk hS
  clear hS
  have HR0 := Aside0.mk hr0
  have HC0 := Aside0.mk hc0
  clear hr0 hc0
  have HR1 := Aside0.mk hr1
  have HC1 := Aside0.mk hc1
  clear hr1 hc1
  have HB := Aside0.mk (Below.refl w.heap.size w)
  have H : ((metrolablaw47_few.f l0).bind fun t372 => (if t372 = true then (metrolablaw47_GaugeWears.j0 k l0 l1 (decide ((l1.length : Int) > 40))) else (metrolablaw47_GaugeWears.j0 k l0 l1 true))) = some r := h
  clear h
  have HC3 := Aside0.mk H
  clear H
  go_enter Tryd.func15, Tryd.ntmps15
  go_upto_region 1 with (fail)
  go_cut [16] (fun v16 wc => ∃ (kq : Nat) (x16_2 : Bool), v16 = .bool x16_2 ∧ Aside0 (metrolablaw47_GaugeWears.j0 kq l0 l1 x16_2 = some r) ∧ Aside0 (kq ≤ k) ∧ Aside0 (Below w.heap.size w wc))
  case first =>
    have H := HC3.out
    clear HC3
    replace H := Option.bind_eq_some_iff.mp H
    obtain ⟨t372, A40, H⟩ := H
    replace H : (if t372 = true then (metrolablaw47_GaugeWears.j0 k l0 l1 (decide ((l1.length : Int) > 40))) else (metrolablaw47_GaugeWears.j0 k l0 l1 true)) = some r := H
    have A4 := Aside0.mk A40
    clear A40
    by_cases c5 : t372 = true
    · subst c5
      have H1 : (metrolablaw47_GaugeWears.j0 k l0 l1 (decide ((l1.length : Int) > 40))) = some r := by rw [if_pos rfl] at H; exact H
      clear H
      have H := H1
      clear H1
      have H' := Aside0.mk H
      clear H
      go_wp2_with (first | ((with_reducible refine gate_callee (f := 29) rfl ?_); refine goesL_ (some 10) rfl rfl Tryd.func29 (by kernel_rfl) rfl #[.slice A0 l0.length c0] rfl (by (try simp only [List.map_toArray, List.map_cons, List.map_nil]); first | done | rfl | (simp only [List.length_drop, List.length_take]; rfl)) ?_; (with_reducible refine (metrolablaw47_few.calls _ _ l0 true _ ?side1 ?side2 A4.out).mono ?_); (case side1 => repeat (first | exact (Kd.C_below HR0.out HB.out) | (with_reducible refine Kd.C_alloc ?_ _) | (with_reducible refine Kd.C_drewN ?_ _) | (with_reducible refine Kd.C_drew ?_))); (case side2 => exact HC0.out); rintro e w' ⟨rfl, ⟨nd, rfl⟩⟩; refine ⟨_, rfl, ?_⟩))
      go_meet
      case rel => exact ⟨_, (decide ((l1.length : Int) > 40)), (by first | rfl | (simp; done) | (simp [*]; done)), H', ⟨by first | omega | exact Nat.le_refl _⟩, ⟨by repeat (first | (with_reducible first | exact HB.out | apply below_alloc | apply pw_below_drewN | apply below_drew1) | exact HB.out)⟩⟩
    · replace c5 := Bool.eq_false_iff.mpr c5
      subst c5
      have H1 : (metrolablaw47_GaugeWears.j0 k l0 l1 true) = some r := by rw [if_neg (show ¬ (false = true) by decide)] at H; exact H
      clear H
      have H := H1
      clear H1
      have H' := Aside0.mk H
      clear H
      go_wp2_with (first | ((with_reducible refine gate_callee (f := 29) rfl ?_); refine goesL_ (some 10) rfl rfl Tryd.func29 (by kernel_rfl) rfl #[.slice A0 l0.length c0] rfl (by (try simp only [List.map_toArray, List.map_cons, List.map_nil]); first | done | rfl | (simp only [List.length_drop, List.length_take]; rfl)) ?_; (with_reducible refine (metrolablaw47_few.calls _ _ l0 false _ ?side1 ?side2 A4.out).mono ?_); (case side1 => repeat (first | exact (Kd.C_below HR0.out HB.out) | (with_reducible refine Kd.C_alloc ?_ _) | (with_reducible refine Kd.C_drewN ?_ _) | (with_reducible refine Kd.C_drew ?_))); (case side2 => exact HC0.out); rintro e w' ⟨rfl, ⟨nd, rfl⟩⟩; refine ⟨_, rfl, ?_⟩))
      go_meet
      case rel => exact ⟨_, (true), (by first | rfl | (simp; done) | (simp [*]; done)), H', ⟨by first | omega | exact Nat.le_refl _⟩, ⟨by repeat (first | (with_reducible first | exact HB.out | apply below_alloc | apply pw_below_drewN | apply below_drew1) | exact HB.out)⟩⟩
  case rest =>
    clear HC3
    try clear c1
    try clear c2
    try clear p2
    try clear c5
    obtain ⟨kq, x16_2, rfl, HA, HJ2, HB⟩ := hcut
    cases kq with
    | zero => exact absurd HA.out (by simp [metrolablaw47_GaugeWears.j0])
    | succ kj2 =>
      have H := HA.out
      clear HA
      simp only [metrolablaw47_GaugeWears.j0] at H
      by_cases c6 : x16_2 = true
      · subst c6
        have H1 : ((metrolablaw47_awake.f kj2).bind fun t373 => (some t373)) = some r := by rw [if_pos rfl] at H; exact H
        clear H
        have H := H1
        clear H1
        replace H := Option.bind_eq_some_iff.mp H
        obtain ⟨t373, A70, H⟩ := H
        replace H : (some t373) = some r := H
        have A7 := Aside0.mk A70
        clear A70
        obtain rfl := Option.some.inj H
        go_wp2_with (first | ((with_reducible refine gate_callee (f := 30) rfl ?_); refine goesL_ (some 17) rfl rfl Tryd.func30 (by kernel_rfl) rfl #[] rfl (by (try simp only [List.map_toArray, List.map_cons, List.map_nil]); first | done | rfl | (simp only [List.length_drop, List.length_take]; rfl)) ?_; (with_reducible refine (metrolablaw47_awake.calls kj2  t373 _ A7.out (by exact sig_below HS.out (by repeat (first | (with_reducible first | exact HB.out | apply below_alloc | apply pw_below_drewN | apply below_drew1 | fail) | exact HB.out)))).mono ?_); rintro e w8 ⟨rfl, hb⟩; refine ⟨_, rfl, ?_⟩; have n0_ := Aside0.mk (below_step (by repeat (first | (with_reducible first | exact HB.out | apply below_alloc | apply pw_below_drewN | apply below_drew1) | exact HB.out)) hb); clear HB; have HB := n0_; clear n0_; (try clear hb); (try clear hb2); (try clear hk); (try clear hi)))
        go_ret
        exact ⟨by first | rfl | (simp [errW_none, errW_some] <;> rfl) | (simp [*, errW_none, errW_some] <;> rfl), by repeat (first | (with_reducible first | exact HB.out | apply below_alloc | apply pw_below_drewN | apply below_drew1) | exact HB.out)⟩
      · replace c6 := Bool.eq_false_iff.mpr c6
        subst c6
        have H1 : ((gauge_Worn.f kj2 l0 l1).bind fun bt374 => ((metrolablaw47_tools.f kj2 l1).bind fun t378 => ((metrolabref47_Worn.f kj2 l0 t378).bind fun bt381 => ((slices_Equal_int_int.f kj2 bt374.1 bt381.1).bind fun t385 => (if t385 = true then (if bt374.2 = bt381.2 then ((metrolablaw47_awake.f kj2).bind fun t386 => (some t386)) else (some false)) else (some false)))))) = some r := by rw [if_neg (show ¬ (false = true) by decide)] at H; exact H
        clear H
        have H := H1
        clear H1
        replace H := Option.bind_eq_some_iff.mp H
        obtain ⟨⟨t374, t375⟩, A90, H⟩ := H
        replace H : ((metrolablaw47_tools.f kj2 l1).bind fun t378 => ((metrolabref47_Worn.f kj2 l0 t378).bind fun bt381 => ((slices_Equal_int_int.f kj2 t374 bt381.1).bind fun t385 => (if t385 = true then (if t375 = bt381.2 then ((metrolablaw47_awake.f kj2).bind fun t386 => (some t386)) else (some false)) else (some false))))) = some r := H
        have A9 := Aside0.mk A90
        clear A90
        replace H := Option.bind_eq_some_iff.mp H
        obtain ⟨t378, A100, H⟩ := H
        replace H : ((metrolabref47_Worn.f kj2 l0 t378).bind fun bt381 => ((slices_Equal_int_int.f kj2 t374 bt381.1).bind fun t385 => (if t385 = true then (if t375 = bt381.2 then ((metrolablaw47_awake.f kj2).bind fun t386 => (some t386)) else (some false)) else (some false)))) = some r := H
        have A10 := Aside0.mk A100
        clear A100
        replace H := Option.bind_eq_some_iff.mp H
        obtain ⟨⟨t381, t382⟩, A110, H⟩ := H
        replace H : ((slices_Equal_int_int.f kj2 t374 t381).bind fun t385 => (if t385 = true then (if t375 = t382 then ((metrolablaw47_awake.f kj2).bind fun t386 => (some t386)) else (some false)) else (some false))) = some r := H
        have A11 := Aside0.mk A110
        clear A110
        replace H := Option.bind_eq_some_iff.mp H
        obtain ⟨t385, A120, H⟩ := H
        replace H : (if t385 = true then (if t375 = t382 then ((metrolablaw47_awake.f kj2).bind fun t386 => (some t386)) else (some false)) else (some false)) = some r := H
        have A12 := Aside0.mk A120
        clear A120
        by_cases c13 : t385 = true
        · subst c13
          have H1 : (if t375 = t382 then ((metrolablaw47_awake.f kj2).bind fun t386 => (some t386)) else (some false)) = some r := by rw [if_pos rfl] at H; exact H
          clear H
          have H := H1
          clear H1
          by_cases c14 : t375 = t382
          · rw [if_pos c14] at H
            have c14b0 : (t375 == t382) = true := beq_iff_eq.mpr c14
            have c14b1 : (t375 != t382) = false := bne_eq_false_iff_eq.mpr c14
            clear c14
            replace H := Option.bind_eq_some_iff.mp H
            obtain ⟨t386, A150, H⟩ := H
            replace H : (some t386) = some r := H
            have A15 := Aside0.mk A150
            clear A150
            obtain rfl := Option.some.inj H
            go_wp2_with (first | ((with_reducible refine gate_callee (f := 36) rfl ?_); refine goesL_ (some 21) rfl rfl Tryd.func36 (by kernel_rfl) rfl #[.slice A0 l0.length c0, .slice A1 l1.length c1] rfl (by (try simp only [List.map_toArray, List.map_cons, List.map_nil]); first | done | rfl | (simp only [List.length_drop, List.length_take]; rfl)) ?_; (with_reducible refine (gauge_Worn.calls kj2 _ _ l0 _ _ l1 t374 t375 _ ?side1 ?side2 ?side3 ?side4 A9.out (by exact sig_below HS.out (by repeat (first | (with_reducible first | exact HB.out | apply below_alloc | apply pw_below_drewN | apply below_drew1 | fail) | exact HB.out)))).mono ?_); (case side1 => repeat (first | exact (Kd.C_below HR0.out HB.out) | (with_reducible refine Kd.C_alloc ?_ _) | (with_reducible refine Kd.C_drewN ?_ _) | (with_reducible refine Kd.C_drew ?_))); (case side2 => exact HC0.out); (case side3 => repeat (first | exact (Kd.C_below HR1.out HB.out) | (with_reducible refine Kd.C_alloc ?_ _) | (with_reducible refine Kd.C_drewN ?_ _) | (with_reducible refine Kd.C_drew ?_))); (case side4 => exact HC1.out); rintro e w16 ⟨v376, rfl, ho0, hb⟩; refine ⟨_, rfl, ?_⟩; have n0_ := Aside0.mk (Kd.R_lower ho0 (below_size (by repeat (first | (with_reducible first | exact HB.out | apply below_alloc | apply pw_below_drewN | apply below_drew1) | exact HB.out)))); have n1_ := Aside0.mk (below_step (by repeat (first | (with_reducible first | exact HB.out | apply below_alloc | apply pw_below_drewN | apply below_drew1) | exact HB.out)) hb); clear HB; have HO377 := n0_; have HB := n1_; clear n0_ n1_; (try clear hb); (try clear hb2); (try clear hk); (try clear hi); (try clear ho0)) | ((with_reducible refine gate_callee (f := 61) rfl ?_); refine goesL_ (some 27) rfl rfl Tryd.func61 (by kernel_rfl) rfl #[.slice A1 l1.length c1] rfl (by (try simp only [List.map_toArray, List.map_cons, List.map_nil]); first | done | rfl | (simp only [List.length_drop, List.length_take]; rfl)) ?_; (with_reducible refine (metrolablaw47_tools.calls kj2 _ _ l1 t378 _ ?side1 ?side2 A10.out).mono ?_); (case side1 => repeat (first | exact (Kd.C_below HR1.out HB.out) | (with_reducible refine Kd.C_alloc ?_ _) | (with_reducible refine Kd.C_drewN ?_ _) | (with_reducible refine Kd.C_drew ?_))); (case side2 => exact HC1.out); rintro e w17 ⟨v379, rfl, ho0, hb⟩; refine ⟨_, rfl, ?_⟩; have n0_ := Aside0.mk (Kd.R_below (by (with_reducible repeat (first | apply Kd.R_alloc | apply Kd.R_drewN | apply Kd.R_drew)); exact HO377.out) hb); have n1_ := Aside0.mk (Kd.R_lower ho0 (below_size (by repeat (first | (with_reducible first | exact HB.out | apply below_alloc | apply pw_below_drewN | apply below_drew1) | exact HB.out)))); have n2_ := Aside0.mk (below_step (by repeat (first | (with_reducible first | exact HB.out | apply below_alloc | apply pw_below_drewN | apply below_drew1) | exact HB.out)) hb); clear HO377; clear HB; have HO377 := n0_; have HO380 := n1_; have HB := n2_; clear n0_ n1_ n2_; (try clear hb); (try clear hb2); (try clear hk); (try clear hi); (try clear ho0); obtain ⟨Ao18, co18, eo18⟩ := Kd.R_slice HO380.out; subst eo18) | ((with_reducible refine gate_callee (f := 62) rfl ?_); refine goesL_ (some 28) rfl rfl Tryd.func62 (by kernel_rfl) rfl #[.slice A0 l0.length c0, .slice Ao18 t378.length co18] rfl (by (try simp only [List.map_toArray, List.map_cons, List.map_nil]); first | done | rfl | (simp only [List.length_drop, List.length_take]; rfl)) ?_; (with_reducible refine (metrolabref47_Worn.calls kj2 _ _ l0 _ _ t378 t381 t382 _ ?side1 ?side2 ?side3 ?side4 A11.out).mono ?_); (case side1 => repeat (first | exact (Kd.C_below HR0.out HB.out) | (with_reducible refine Kd.C_alloc ?_ _) | (with_reducible refine Kd.C_drewN ?_ _) | (with_reducible refine Kd.C_drew ?_))); (case side2 => exact HC0.out); (case side3 => repeat (first | exact (Kd.R_reads' HO380.out).2.2 | (with_reducible refine Kd.C_alloc ?_ _) | (with_reducible refine Kd.C_drewN ?_ _) | (with_reducible refine Kd.C_drew ?_))); (case side4 => exact (Kd.R_reads' HO380.out).2.1); rintro e w19 ⟨v383, rfl, ho0, hb⟩; refine ⟨_, rfl, ?_⟩; have n0_ := Aside0.mk (Kd.R_elder' (by (with_reducible repeat (first | apply Kd.R_alloc | apply Kd.R_drewN | apply Kd.R_drew)); exact HO377.out) (Kd.R_base ho0) hb); have n1_ := Aside0.mk (Kd.R_below (by (with_reducible repeat (first | apply Kd.R_alloc | apply Kd.R_drewN | apply Kd.R_drew)); exact HO380.out) hb); have n2_ := Aside0.mk (Kd.R_lower (Kd.R_new' ho0 (Kd.R_lt (by (with_reducible repeat (first | apply Kd.R_alloc | apply Kd.R_drewN | apply Kd.R_drew)); exact HO377.out))) (below_size (by repeat (first | (with_reducible first | exact HB.out | apply below_alloc | apply pw_below_drewN | apply below_drew1) | exact HB.out)))); have n3_ := Aside0.mk (below_step (by repeat (first | (with_reducible first | exact HB.out | apply below_alloc | apply pw_below_drewN | apply below_drew1) | exact HB.out)) hb); clear HO377; clear HO380; clear HB; have HO377 := n0_; have HO380 := n1_; have HO384 := n2_; have HB := n3_; clear n0_ n1_ n2_ n3_; (try clear hb); (try clear hb2); (try clear hk); (try clear hi); (try clear ho0); obtain ⟨Ao20, co20, eo20⟩ := Kd.R_slice HO377.out; subst eo20; obtain ⟨Ao21, co21, eo21⟩ := Kd.R_slice HO384.out; subst eo21) | ((with_reducible refine gate_callee (f := 55) rfl ?_); refine goesL_ (some 33) rfl rfl Tryd.func55 (by kernel_rfl) rfl #[.slice Ao20 t374.length co20, .slice Ao21 t381.length co21] rfl (by (try simp only [List.map_toArray, List.map_cons, List.map_nil]); first | done | rfl | (simp only [List.length_drop, List.length_take]; rfl)) ?_; (with_reducible refine (slices_Equal_int_int.calls kj2 _ _ t374 _ _ t381 true _ ?side1 ?side2 ?side3 ?side4 A12.out).mono ?_); (case side1 => repeat (first | exact (Kd.R_reads' HO377.out).2.2 | (with_reducible refine Kd.C_alloc ?_ _) | (with_reducible refine Kd.C_drewN ?_ _) | (with_reducible refine Kd.C_drew ?_))); (case side2 => exact (Kd.R_reads' HO377.out).2.1); (case side3 => repeat (first | exact (Kd.R_reads' HO384.out).2.2 | (with_reducible refine Kd.C_alloc ?_ _) | (with_reducible refine Kd.C_drewN ?_ _) | (with_reducible refine Kd.C_drew ?_))); (case side4 => exact (Kd.R_reads' HO384.out).2.1); rintro e w' ⟨rfl, ⟨nd, rfl⟩⟩; refine ⟨_, rfl, ?_⟩) | (go_at_call 30; (with_reducible refine (metrolablaw47_awake.calls kj2  t386 _ A15.out (by exact sig_below HS.out (by repeat (first | (with_reducible first | exact HB.out | apply below_alloc | apply pw_below_drewN | apply below_drew1 | fail) | exact HB.out)))).mono ?_); rintro e w22 ⟨rfl, hb⟩; have n0_ := Aside0.mk (Kd.R_below (by (with_reducible repeat (first | apply Kd.R_alloc | apply Kd.R_drewN | apply Kd.R_drew)); exact HO377.out) hb); have n1_ := Aside0.mk (Kd.R_below (by (with_reducible repeat (first | apply Kd.R_alloc | apply Kd.R_drewN | apply Kd.R_drew)); exact HO380.out) hb); have n2_ := Aside0.mk (Kd.R_below (by (with_reducible repeat (first | apply Kd.R_alloc | apply Kd.R_drewN | apply Kd.R_drew)); exact HO384.out) hb); have n3_ := Aside0.mk (below_step (by repeat (first | (with_reducible first | exact HB.out | apply below_alloc | apply pw_below_drewN | apply below_drew1) | exact HB.out)) hb); clear HO377; clear HO380; clear HO384; clear HB; have HO377 := n0_; have HO380 := n1_; have HO384 := n2_; have HB := n3_; clear n0_ n1_ n2_ n3_; (try clear hb); (try clear hb2); (try clear hk); (try clear hi)))
            go_ret
            exact ⟨by first | rfl | (simp [errW_none, errW_some] <;> rfl) | (simp [*, errW_none, errW_some] <;> rfl), by repeat (first | (with_reducible first | exact HB.out | apply below_alloc | apply pw_below_drewN | apply below_drew1) | exact HB.out)⟩
          · rw [if_neg c14] at H
            have c14b0 : (t375 == t382) = false := beq_eq_false_iff_ne.mpr c14
            have c14b1 : (t375 != t382) = true := bne_iff_ne.mpr c14
            obtain rfl := Option.some.inj H
            go_wp2_with (first | ((with_reducible refine gate_callee (f := 36) rfl ?_); refine goesL_ (some 21) rfl rfl Tryd.func36 (by kernel_rfl) rfl #[.slice A0 l0.length c0, .slice A1 l1.length c1] rfl (by (try simp only [List.map_toArray, List.map_cons, List.map_nil]); first | done | rfl | (simp only [List.length_drop, List.length_take]; rfl)) ?_; (with_reducible refine (gauge_Worn.calls kj2 _ _ l0 _ _ l1 t374 t375 _ ?side1 ?side2 ?side3 ?side4 A9.out (by exact sig_below HS.out (by repeat (first | (with_reducible first | exact HB.out | apply below_alloc | apply pw_below_drewN | apply below_drew1 | fail) | exact HB.out)))).mono ?_); (case side1 => repeat (first | exact (Kd.C_below HR0.out HB.out) | (with_reducible refine Kd.C_alloc ?_ _) | (with_reducible refine Kd.C_drewN ?_ _) | (with_reducible refine Kd.C_drew ?_))); (case side2 => exact HC0.out); (case side3 => repeat (first | exact (Kd.C_below HR1.out HB.out) | (with_reducible refine Kd.C_alloc ?_ _) | (with_reducible refine Kd.C_drewN ?_ _) | (with_reducible refine Kd.C_drew ?_))); (case side4 => exact HC1.out); rintro e w23 ⟨v376, rfl, ho0, hb⟩; refine ⟨_, rfl, ?_⟩; have n0_ := Aside0.mk (Kd.R_lower ho0 (below_size (by repeat (first | (with_reducible first | exact HB.out | apply below_alloc | apply pw_below_drewN | apply below_drew1) | exact HB.out)))); have n1_ := Aside0.mk (below_step (by repeat (first | (with_reducible first | exact HB.out | apply below_alloc | apply pw_below_drewN | apply below_drew1) | exact HB.out)) hb); clear HB; have HO377 := n0_; have HB := n1_; clear n0_ n1_; (try clear hb); (try clear hb2); (try clear hk); (try clear hi); (try clear ho0)) | ((with_reducible refine gate_callee (f := 61) rfl ?_); refine goesL_ (some 27) rfl rfl Tryd.func61 (by kernel_rfl) rfl #[.slice A1 l1.length c1] rfl (by (try simp only [List.map_toArray, List.map_cons, List.map_nil]); first | done | rfl | (simp only [List.length_drop, List.length_take]; rfl)) ?_; (with_reducible refine (metrolablaw47_tools.calls kj2 _ _ l1 t378 _ ?side1 ?side2 A10.out).mono ?_); (case side1 => repeat (first | exact (Kd.C_below HR1.out HB.out) | (with_reducible refine Kd.C_alloc ?_ _) | (with_reducible refine Kd.C_drewN ?_ _) | (with_reducible refine Kd.C_drew ?_))); (case side2 => exact HC1.out); rintro e w24 ⟨v379, rfl, ho0, hb⟩; refine ⟨_, rfl, ?_⟩; have n0_ := Aside0.mk (Kd.R_below (by (with_reducible repeat (first | apply Kd.R_alloc | apply Kd.R_drewN | apply Kd.R_drew)); exact HO377.out) hb); have n1_ := Aside0.mk (Kd.R_lower ho0 (below_size (by repeat (first | (with_reducible first | exact HB.out | apply below_alloc | apply pw_below_drewN | apply below_drew1) | exact HB.out)))); have n2_ := Aside0.mk (below_step (by repeat (first | (with_reducible first | exact HB.out | apply below_alloc | apply pw_below_drewN | apply below_drew1) | exact HB.out)) hb); clear HO377; clear HB; have HO377 := n0_; have HO380 := n1_; have HB := n2_; clear n0_ n1_ n2_; (try clear hb); (try clear hb2); (try clear hk); (try clear hi); (try clear ho0); obtain ⟨Ao25, co25, eo25⟩ := Kd.R_slice HO380.out; subst eo25) | ((with_reducible refine gate_callee (f := 62) rfl ?_); refine goesL_ (some 28) rfl rfl Tryd.func62 (by kernel_rfl) rfl #[.slice A0 l0.length c0, .slice Ao25 t378.length co25] rfl (by (try simp only [List.map_toArray, List.map_cons, List.map_nil]); first | done | rfl | (simp only [List.length_drop, List.length_take]; rfl)) ?_; (with_reducible refine (metrolabref47_Worn.calls kj2 _ _ l0 _ _ t378 t381 t382 _ ?side1 ?side2 ?side3 ?side4 A11.out).mono ?_); (case side1 => repeat (first | exact (Kd.C_below HR0.out HB.out) | (with_reducible refine Kd.C_alloc ?_ _) | (with_reducible refine Kd.C_drewN ?_ _) | (with_reducible refine Kd.C_drew ?_))); (case side2 => exact HC0.out); (case side3 => repeat (first | exact (Kd.R_reads' HO380.out).2.2 | (with_reducible refine Kd.C_alloc ?_ _) | (with_reducible refine Kd.C_drewN ?_ _) | (with_reducible refine Kd.C_drew ?_))); (case side4 => exact (Kd.R_reads' HO380.out).2.1); rintro e w26 ⟨v383, rfl, ho0, hb⟩; refine ⟨_, rfl, ?_⟩; have n0_ := Aside0.mk (Kd.R_elder' (by (with_reducible repeat (first | apply Kd.R_alloc | apply Kd.R_drewN | apply Kd.R_drew)); exact HO377.out) (Kd.R_base ho0) hb); have n1_ := Aside0.mk (Kd.R_below (by (with_reducible repeat (first | apply Kd.R_alloc | apply Kd.R_drewN | apply Kd.R_drew)); exact HO380.out) hb); have n2_ := Aside0.mk (Kd.R_lower (Kd.R_new' ho0 (Kd.R_lt (by (with_reducible repeat (first | apply Kd.R_alloc | apply Kd.R_drewN | apply Kd.R_drew)); exact HO377.out))) (below_size (by repeat (first | (with_reducible first | exact HB.out | apply below_alloc | apply pw_below_drewN | apply below_drew1) | exact HB.out)))); have n3_ := Aside0.mk (below_step (by repeat (first | (with_reducible first | exact HB.out | apply below_alloc | apply pw_below_drewN | apply below_drew1) | exact HB.out)) hb); clear HO377; clear HO380; clear HB; have HO377 := n0_; have HO380 := n1_; have HO384 := n2_; have HB := n3_; clear n0_ n1_ n2_ n3_; (try clear hb); (try clear hb2); (try clear hk); (try clear hi); (try clear ho0); obtain ⟨Ao27, co27, eo27⟩ := Kd.R_slice HO377.out; subst eo27; obtain ⟨Ao28, co28, eo28⟩ := Kd.R_slice HO384.out; subst eo28) | ((with_reducible refine gate_callee (f := 55) rfl ?_); refine goesL_ (some 33) rfl rfl Tryd.func55 (by kernel_rfl) rfl #[.slice Ao27 t374.length co27, .slice Ao28 t381.length co28] rfl (by (try simp only [List.map_toArray, List.map_cons, List.map_nil]); first | done | rfl | (simp only [List.length_drop, List.length_take]; rfl)) ?_; (with_reducible refine (slices_Equal_int_int.calls kj2 _ _ t374 _ _ t381 true _ ?side1 ?side2 ?side3 ?side4 A12.out).mono ?_); (case side1 => repeat (first | exact (Kd.R_reads' HO377.out).2.2 | (with_reducible refine Kd.C_alloc ?_ _) | (with_reducible refine Kd.C_drewN ?_ _) | (with_reducible refine Kd.C_drew ?_))); (case side2 => exact (Kd.R_reads' HO377.out).2.1); (case side3 => repeat (first | exact (Kd.R_reads' HO384.out).2.2 | (with_reducible refine Kd.C_alloc ?_ _) | (with_reducible refine Kd.C_drewN ?_ _) | (with_reducible refine Kd.C_drew ?_))); (case side4 => exact (Kd.R_reads' HO384.out).2.1); rintro e w' ⟨rfl, ⟨nd, rfl⟩⟩; refine ⟨_, rfl, ?_⟩))
            go_ret
            exact ⟨by first | rfl | (simp [errW_none, errW_some] <;> rfl) | (simp [*, errW_none, errW_some] <;> rfl), by repeat (first | (with_reducible first | exact HB.out | apply below_alloc | apply pw_below_drewN | apply below_drew1) | exact HB.out)⟩
        · replace c13 := Bool.eq_false_iff.mpr c13
          subst c13
          have H1 : (some false) = some r := by rw [if_neg (show ¬ (false = true) by decide)] at H; exact H
          clear H
          have H := H1
          clear H1
          obtain rfl := Option.some.inj H
          go_wp2_with (first | ((with_reducible refine gate_callee (f := 36) rfl ?_); refine goesL_ (some 21) rfl rfl Tryd.func36 (by kernel_rfl) rfl #[.slice A0 l0.length c0, .slice A1 l1.length c1] rfl (by (try simp only [List.map_toArray, List.map_cons, List.map_nil]); first | done | rfl | (simp only [List.length_drop, List.length_take]; rfl)) ?_; (with_reducible refine (gauge_Worn.calls kj2 _ _ l0 _ _ l1 t374 t375 _ ?side1 ?side2 ?side3 ?side4 A9.out (by exact sig_below HS.out (by repeat (first | (with_reducible first | exact HB.out | apply below_alloc | apply pw_below_drewN | apply below_drew1 | fail) | exact HB.out)))).mono ?_); (case side1 => repeat (first | exact (Kd.C_below HR0.out HB.out) | (with_reducible refine Kd.C_alloc ?_ _) | (with_reducible refine Kd.C_drewN ?_ _) | (with_reducible refine Kd.C_drew ?_))); (case side2 => exact HC0.out); (case side3 => repeat (first | exact (Kd.C_below HR1.out HB.out) | (with_reducible refine Kd.C_alloc ?_ _) | (with_reducible refine Kd.C_drewN ?_ _) | (with_reducible refine Kd.C_drew ?_))); (case side4 => exact HC1.out); rintro e w29 ⟨v376, rfl, ho0, hb⟩; refine ⟨_, rfl, ?_⟩; have n0_ := Aside0.mk (Kd.R_lower ho0 (below_size (by repeat (first | (with_reducible first | exact HB.out | apply below_alloc | apply pw_below_drewN | apply below_drew1) | exact HB.out)))); have n1_ := Aside0.mk (below_step (by repeat (first | (with_reducible first | exact HB.out | apply below_alloc | apply pw_below_drewN | apply below_drew1) | exact HB.out)) hb); clear HB; have HO377 := n0_; have HB := n1_; clear n0_ n1_; (try clear hb); (try clear hb2); (try clear hk); (try clear hi); (try clear ho0)) | ((with_reducible refine gate_callee (f := 61) rfl ?_); refine goesL_ (some 27) rfl rfl Tryd.func61 (by kernel_rfl) rfl #[.slice A1 l1.length c1] rfl (by (try simp only [List.map_toArray, List.map_cons, List.map_nil]); first | done | rfl | (simp only [List.length_drop, List.length_take]; rfl)) ?_; (with_reducible refine (metrolablaw47_tools.calls kj2 _ _ l1 t378 _ ?side1 ?side2 A10.out).mono ?_); (case side1 => repeat (first | exact (Kd.C_below HR1.out HB.out) | (with_reducible refine Kd.C_alloc ?_ _) | (with_reducible refine Kd.C_drewN ?_ _) | (with_reducible refine Kd.C_drew ?_))); (case side2 => exact HC1.out); rintro e w30 ⟨v379, rfl, ho0, hb⟩; refine ⟨_, rfl, ?_⟩; have n0_ := Aside0.mk (Kd.R_below (by (with_reducible repeat (first | apply Kd.R_alloc | apply Kd.R_drewN | apply Kd.R_drew)); exact HO377.out) hb); have n1_ := Aside0.mk (Kd.R_lower ho0 (below_size (by repeat (first | (with_reducible first | exact HB.out | apply below_alloc | apply pw_below_drewN | apply below_drew1) | exact HB.out)))); have n2_ := Aside0.mk (below_step (by repeat (first | (with_reducible first | exact HB.out | apply below_alloc | apply pw_below_drewN | apply below_drew1) | exact HB.out)) hb); clear HO377; clear HB; have HO377 := n0_; have HO380 := n1_; have HB := n2_; clear n0_ n1_ n2_; (try clear hb); (try clear hb2); (try clear hk); (try clear hi); (try clear ho0); obtain ⟨Ao31, co31, eo31⟩ := Kd.R_slice HO380.out; subst eo31) | ((with_reducible refine gate_callee (f := 62) rfl ?_); refine goesL_ (some 28) rfl rfl Tryd.func62 (by kernel_rfl) rfl #[.slice A0 l0.length c0, .slice Ao31 t378.length co31] rfl (by (try simp only [List.map_toArray, List.map_cons, List.map_nil]); first | done | rfl | (simp only [List.length_drop, List.length_take]; rfl)) ?_; (with_reducible refine (metrolabref47_Worn.calls kj2 _ _ l0 _ _ t378 t381 t382 _ ?side1 ?side2 ?side3 ?side4 A11.out).mono ?_); (case side1 => repeat (first | exact (Kd.C_below HR0.out HB.out) | (with_reducible refine Kd.C_alloc ?_ _) | (with_reducible refine Kd.C_drewN ?_ _) | (with_reducible refine Kd.C_drew ?_))); (case side2 => exact HC0.out); (case side3 => repeat (first | exact (Kd.R_reads' HO380.out).2.2 | (with_reducible refine Kd.C_alloc ?_ _) | (with_reducible refine Kd.C_drewN ?_ _) | (with_reducible refine Kd.C_drew ?_))); (case side4 => exact (Kd.R_reads' HO380.out).2.1); rintro e w32 ⟨v383, rfl, ho0, hb⟩; refine ⟨_, rfl, ?_⟩; have n0_ := Aside0.mk (Kd.R_elder' (by (with_reducible repeat (first | apply Kd.R_alloc | apply Kd.R_drewN | apply Kd.R_drew)); exact HO377.out) (Kd.R_base ho0) hb); have n1_ := Aside0.mk (Kd.R_below (by (with_reducible repeat (first | apply Kd.R_alloc | apply Kd.R_drewN | apply Kd.R_drew)); exact HO380.out) hb); have n2_ := Aside0.mk (Kd.R_lower (Kd.R_new' ho0 (Kd.R_lt (by (with_reducible repeat (first | apply Kd.R_alloc | apply Kd.R_drewN | apply Kd.R_drew)); exact HO377.out))) (below_size (by repeat (first | (with_reducible first | exact HB.out | apply below_alloc | apply pw_below_drewN | apply below_drew1) | exact HB.out)))); have n3_ := Aside0.mk (below_step (by repeat (first | (with_reducible first | exact HB.out | apply below_alloc | apply pw_below_drewN | apply below_drew1) | exact HB.out)) hb); clear HO377; clear HO380; clear HB; have HO377 := n0_; have HO380 := n1_; have HO384 := n2_; have HB := n3_; clear n0_ n1_ n2_ n3_; (try clear hb); (try clear hb2); (try clear hk); (try clear hi); (try clear ho0); obtain ⟨Ao33, co33, eo33⟩ := Kd.R_slice HO377.out; subst eo33; obtain ⟨Ao34, co34, eo34⟩ := Kd.R_slice HO384.out; subst eo34) | ((with_reducible refine gate_callee (f := 55) rfl ?_); refine goesL_ (some 33) rfl rfl Tryd.func55 (by kernel_rfl) rfl #[.slice Ao33 t374.length co33, .slice Ao34 t381.length co34] rfl (by (try simp only [List.map_toArray, List.map_cons, List.map_nil]); first | done | rfl | (simp only [List.length_drop, List.length_take]; rfl)) ?_; (with_reducible refine (slices_Equal_int_int.calls kj2 _ _ t374 _ _ t381 false _ ?side1 ?side2 ?side3 ?side4 A12.out).mono ?_); (case side1 => repeat (first | exact (Kd.R_reads' HO377.out).2.2 | (with_reducible refine Kd.C_alloc ?_ _) | (with_reducible refine Kd.C_drewN ?_ _) | (with_reducible refine Kd.C_drew ?_))); (case side2 => exact (Kd.R_reads' HO377.out).2.1); (case side3 => repeat (first | exact (Kd.R_reads' HO384.out).2.2 | (with_reducible refine Kd.C_alloc ?_ _) | (with_reducible refine Kd.C_drewN ?_ _) | (with_reducible refine Kd.C_drew ?_))); (case side4 => exact (Kd.R_reads' HO384.out).2.1); rintro e w' ⟨rfl, ⟨nd, rfl⟩⟩; refine ⟨_, rfl, ?_⟩))
          go_ret
          exact ⟨by first | rfl | (simp [errW_none, errW_some] <;> rfl) | (simp [*, errW_none, errW_some] <;> rfl), by repeat (first | (with_reducible first | exact HB.out | apply below_alloc | apply pw_below_drewN | apply below_drew1) | exact HB.out)⟩
end Go.Proofs.YtjemaonejkepcaaDoor.G
namespace Go.Proofs.YtjemaonejkepcaaDoor.G
set_option linter.unusedVariables false
set_option linter.unusedSimpArgs false
open Go.Proofs.YtjemaonejkepcaaDoor.B
open Go.RowKit Go.Proofs.YtjemaonejkepcaaDoorW.PrintWords Go.Proofs.YtjemaonejkepcaaDoorW.PrintMore
/-- The error of a tool for a target; whether it is worn. -/
def we (t : S27) (x : S56) : Int := if 1 ≤ x.f2 ∧ x.f2 ≤ 300000 then (if x.f0.f0 = t.f0.f0 ∧ x.f0.f1 = t.f0.f1 ∧ x.f1 = t.f4 then 0 else 16) else 2
def wb (t : S27) (x : S56) : Bool := if x.f1 = true then decide (x.f2 > tv t) else decide (x.f2 < tv t)
def fw : List S27 → List S56 → Int
  | t :: r, x :: s => if we t x = 0 then fw r s else we t x
  | _, _ => 0
theorem fw_ok {t : S27} {r : List S27} {x : S56} {s : List S56} (h : we t x = 0) : fw (t :: r) (x :: s) = fw r s := by
  show (if we t x = 0 then fw r s else we t x) = _; rw [if_pos h]
theorem fw_bad {t : S27} {r : List S27} {x : S56} {s : List S56} (h : ¬ we t x = 0) : fw (t :: r) (x :: s) = we t x := by
  show (if we t x = 0 then fw r s else we t x) = _; rw [if_neg h]
theorem worn_1 (l : List S27) (g : List S56) {i : Int} (h0 : 0 ≤ i) (h1 : i < (l.length : Int)) :
    ∃ a, @gauge_Worn_1.f (Dat89.mk l (l.map tv)) i (rd_T56 g i).f0.f0 (rd_T56 g i).f0.f1 (rd_T56 g i).f1 (rd_T56 g i).f2 = some (a, we (rd_T27 l i) (rd_T56 g i)) ∧ (we (rd_T27 l i) (rd_T56 g i) = 0 → a = wb (rd_T27 l i) (rd_T56 g i)) := by
  have hs : i < ((l.map tv).length : Int) := by simpa using h1
  have hr : rd (l.map tv) i = tv (rd_T27 l i) := getD_map tv l z27 0 (by omega)
  have hr' : rd (@Dat89.sz (Dat89.mk l (l.map tv))) i = tv (rd_T27 l i) := hr
  have hl' : rd_T27 (@Dat89.l (Dat89.mk l (l.map tv))) i = rd_T27 l i := rfl
  unfold gauge_Worn_1.f
  rw [if_pos h0, if_pos (show i < ((@Dat89.l (Dat89.mk l (l.map tv))).length : Int) from h1), if_pos (show i < ((@Dat89.sz (Dat89.mk l (l.map tv))).length : Int) from hs), granged, hr', hl']
  generalize rd_T27 l i = t at *
  generalize rd_T56 g i = x at *
  simp only [Option.bind_some, decide_eq_true_eq]
  unfold we wb
  by_cases hL : 1 ≤ x.f2 ∧ x.f2 ≤ 300000
  · rw [if_pos hL, if_pos hL]
    by_cases hc : x.f0.f0 = t.f0.f0 ∧ x.f0.f1 = t.f0.f1 ∧ x.f1 = t.f4
    · rw [if_pos hc, if_pos hc]
      cases hp : x.f1 with
      | true => rw [if_pos rfl, if_pos rfl]; exact ⟨_, rfl, fun _ => rfl⟩
      | false => rw [if_neg Bool.false_ne_true, if_neg Bool.false_ne_true]; exact ⟨_, rfl, fun _ => rfl⟩
    · rw [if_neg hc, if_neg hc]
      exact ⟨_, rfl, fun h => by omega⟩
  · rw [if_neg hL, if_neg hL]
    exact ⟨_, rfl, fun h => by omega⟩
theorem wmap_l0 (l : List S27) (g : List S56) (hn : l.length ≤ 1000) (he : g.length = l.length) (d : Nat) : ∀ (k : Nat) (acc : List Bool) (i : Int), 0 ≤ i → (g.length : Int) - i = d → acc.length + d ≤ 1000 → d + 4 ≤ k →
    @gauge_Tool_bool.l0 (Dat89.mk l (l.map tv)) k acc g (g.length : Int) i = some (if fw (l.drop i.toNat) (g.drop i.toNat) = 0 then (acc ++ List.zipWith wb (l.drop i.toNat) (g.drop i.toNat), 0) else ([], fw (l.drop i.toNat) (g.drop i.toNat))) := by
  induction d with
  | zero =>
    intro k acc i h0 hd ha hk
    obtain ⟨k, rfl⟩ : ∃ m, k = m + 1 := ⟨k - 1, by omega⟩
    rw [drop_end l (by omega), drop_end g (by omega)]
    simp only [gauge_Tool_bool.l0]
    rw [if_neg (by omega)]; simp [fw]
  | succ d ih =>
    intro k acc i h0 hd ha hk
    obtain ⟨k, rfl⟩ : ∃ m, k = m + 1 := ⟨k - 1, by omega⟩
    have h1 : i < (g.length : Int) := by omega
    have h2 : i < (l.length : Int) := by omega
    rw [drop_rd l z27 h0 h2, drop_rd g z56 h0 h1]
    simp only [gauge_Tool_bool.l0]
    rw [if_pos h1, if_pos h0, if_pos h1]
    obtain ⟨a, hv, hp⟩ := worn_1 l g h0 h2
    rw [hv]
    simp only [Option.bind_some]
    by_cases ht : we (rd_T27 l i) (rd_T56 g i) = 0
    · rw [if_pos ht, if_pos (by omega), up64 h0 (by omega), ih k _ (i + 1) (by omega) (by omega) (by simp; omega) (by omega), hp ht, fw_ok (t := l.getD i.toNat z27) (x := g.getD i.toNat z56) ht]
      by_cases hf : fw (l.drop (i + 1).toNat) (g.drop (i + 1).toNat) = 0
      · rw [if_pos hf, if_pos hf]; simp [rd_T27, rd_T56]
      · rw [if_neg hf, if_neg hf]
    · rw [if_neg ht, fw_bad (t := l.getD i.toNat z27) (x := g.getD i.toNat z56) ht, if_neg (show ¬ we (l.getD i.toNat z27) (g.getD i.toNat z56) = 0 from ht)]; rfl
/-- The places of what is true, counted from i. -/
def idxs : Int → List Bool → List Int
  | _, [] => []
  | i, b :: r => if b = true then i :: idxs (i + 1) r else idxs (i + 1) r
theorem worn_l0 (q : List Bool) (hn : q.length ≤ 1000) (d : Nat) : ∀ (k : Nat) (xs : List Int) (i : Int), 0 ≤ i → (q.length : Int) - i = d → xs.length + d ≤ 1000 → d < k → gauge_Worn.l0 k xs q (q.length : Int) i = some (xs ++ idxs i (q.drop i.toNat), 0) := by
  induction d with
  | zero =>
    intro k xs i h0 hd ha hk
    obtain ⟨k, rfl⟩ : ∃ m, k = m + 1 := ⟨k - 1, by omega⟩
    rw [drop_end q (by omega)]
    simp only [gauge_Worn.l0]
    rw [if_neg (by omega)]; simp [idxs]
  | succ d ih =>
    intro k xs i h0 hd ha hk
    obtain ⟨k, rfl⟩ : ∃ m, k = m + 1 := ⟨k - 1, by omega⟩
    have h1 : i < (q.length : Int) := by omega
    rw [drop_rd q false h0 h1]
    simp only [gauge_Worn.l0]
    rw [if_pos h1, if_pos h0, if_pos h1, up64 h0 (by omega)]
    have hx : idxs i (q.getD i.toNat false :: q.drop (i + 1).toNat) = if rdOf false q i = true then i :: idxs (i + 1) (q.drop (i + 1).toNat) else idxs (i + 1) (q.drop (i + 1).toNat) := rfl
    rw [hx]
    by_cases hb : rdOf false q i = true
    · rw [if_pos hb, if_pos hb, if_pos (show xs.length < 17592186044416 by omega), ih k _ (i + 1) (by omega) (by omega) (by simp; omega) (by omega)]; simp
    · rw [if_neg hb, if_neg hb, ih k _ (i + 1) (by omega) (by omega) (by omega) (by omega)]
/-- The error of Worn; the worn ones. -/
def wz (l : List S27) (g : List S56) : Int := if ce l = 0 then (if g.length = l.length then fw l g else 8) else ce l
def wo (l : List S27) (g : List S56) : List Int := if wz l g = 0 then idxs 0 (List.zipWith wb l g) else []
theorem gworn (k : Nat) (hk : 40 ≤ k) (l : List S27) (g : List S56) : gauge_Worn.f k l g = some (wo l g, wz l g) := by
  unfold gauge_Worn.f wo wz
  rw [gvirtual k hk]
  by_cases hc : ce l = 0
  · rw [if_pos hc, if_pos hc]
    simp only [Option.bind_some, if_true]
    obtain ⟨hn1, hn2, hl⟩ := ce_ok hc
    by_cases he : g.length = l.length
    · rw [if_pos (by omega), if_pos he]
      simp only [gauge_Tool_bool.f]
      rw [wmap_l0 l g (by omega) he g.length k [] 0 (by omega) (by omega) (by simp; omega) (by omega)]
      simp only [Int.toNat_zero, List.drop_zero, List.nil_append, Option.bind_some]
      by_cases hf : fw l g = 0
      · rw [if_pos hf, if_pos hf, hf]
        simp only [if_true]
        rw [worn_l0 _ (by simp; omega) (List.zipWith wb l g).length k [] 0 (by omega) (by omega) (by simp; omega) (by simp; omega)]
        simp
      · rw [if_neg hf, if_neg hf]
        simp only
        rw [if_neg hf]
    · rw [if_neg (by omega), if_neg he]; rfl
  · rw [if_neg hc, if_neg hc]
    simp only [Option.bind_some]
    rw [if_neg hc, if_neg hc]
theorem tl_at (g : List S56) {i : Int} (h1 : i.toNat < g.length) : rd_T142 (g.map tl) i = tl (rd_T56 g i) := getD_map tl g z56 z142 h1
theorem rworn_l0 (l : List S27) (g : List S56) (hn : l.length ≤ 1000) (he : g.length = l.length) (hl : ∀ t ∈ l, te t = 0) (d : Nat) : ∀ (k : Nat) (xs : List Int) (i : Int), 0 ≤ i → (g.length : Int) - i = d → xs.length + d ≤ 1000 → 2 * d + 4 ≤ k →
    metrolabref47_Worn.l0 k l (g.map tl) xs i = some (if fw (l.drop i.toNat) (g.drop i.toNat) = 0 then (xs ++ idxs i (List.zipWith wb (l.drop i.toNat) (g.drop i.toNat)), 0) else ([], fw (l.drop i.toNat) (g.drop i.toNat))) := by
  induction d with
  | zero =>
    intro k xs i h0 hd ha hk
    obtain ⟨k, rfl⟩ : ∃ m, k = m + 1 := ⟨k - 1, by omega⟩
    rw [drop_end l (by omega), drop_end g (by omega)]
    simp only [metrolabref47_Worn.l0]
    rw [if_neg (by simp; omega)]; simp [fw, idxs]
  | succ d ih =>
    intro k xs i h0 hd ha hk
    obtain ⟨k, rfl⟩ : ∃ m, k = m + 2 := ⟨k - 2, by omega⟩
    have h1 : i < (g.length : Int) := by omega
    have h2 : i < (l.length : Int) := by omega
    have hdr : l.drop i.toNat = rd_T27 l i :: l.drop (i + 1).toNat := drop_rd l z27 h0 h2
    have hdg : g.drop i.toNat = rd_T56 g i :: g.drop (i + 1).toNat := drop_rd g z56 h0 h1
    have hm : te (rd_T27 l i) = 0 := hl _ (List.mem_of_mem_drop (by rw [hdr]; exact List.mem_cons_self))
    have hg1 : i < ((g.map tl).length : Int) := by simpa using h1
    have hat := tl_at g (i := i) (by omega)
    rw [hdr, hdg]
    simp only [metrolabref47_Worn.l0]
    rw [if_pos hg1, if_pos h0, hat, rsize47]
    simp only [Option.bind_some, decide_eq_true_eq]
    have hih := fun a ha => ih k a (i + 1) (by omega) (by omega) ha (by omega)
    have hby := beyond_ok hm
    generalize hT : rd_T27 l i = t at *
    generalize rd_T56 g i = x at *
    rw [show (tl x).f0.f0 = x.f0.f0 from rfl, show (tl x).f0.f1 = x.f0.f1 from rfl, show (tl x).f1 = x.f1 from rfl, show (tl x).f2 = x.f2 from rfl]
    have hwe : we t x = if 1 ≤ x.f2 ∧ x.f2 ≤ 300000 then (if x.f0.f0 = t.f0.f0 ∧ x.f0.f1 = t.f0.f1 ∧ x.f1 = t.f4 then 0 else 16) else 2 := rfl
    by_cases hL : 1 ≤ x.f2 ∧ x.f2 ≤ 300000
    · rw [if_pos hL] at hwe ⊢
      rw [if_pos h2]
      by_cases hc : x.f0.f0 = t.f0.f0 ∧ x.f0.f1 = t.f0.f1 ∧ x.f1 = t.f4
      · rw [if_pos hc] at hwe
        rw [fw_ok hwe]
        obtain ⟨e1, e2, e3⟩ := hc
        rw [e1, e2, e3]
        simp only [beq_self_eq_true, Bool.not_true, Bool.or_self, Bool.false_eq_true, if_false, bne_self_eq_false]
        simp only [metrolabref47_Worn.j1]
        rw [if_neg Bool.false_ne_true, if_pos h0, if_pos h2, if_pos hg1, hat, show (tl x).f2 = x.f2 from rfl, hT, hby, up64 h0 (by omega)]
        simp only [Option.bind_some]
        have hx : idxs i (List.zipWith wb (t :: l.drop (i + 1).toNat) (x :: g.drop (i + 1).toNat)) = if wb t x = true then i :: idxs (i + 1) (List.zipWith wb (l.drop (i + 1).toNat) (g.drop (i + 1).toNat)) else idxs (i + 1) (List.zipWith wb (l.drop (i + 1).toNat) (g.drop (i + 1).toNat)) := rfl
        rw [hx]
        have hwb : (if t.f4 = true then decide (tv t < x.f2) else decide (x.f2 < tv t)) = wb t x := by unfold wb; rw [e3]
        rw [hwb]
        by_cases hb : wb t x = true
        · rw [if_pos hb, if_pos hb, if_pos (show xs.length < 17592186044416 by omega), hih _ (by simp; omega)]
          by_cases hf : fw (l.drop (i + 1).toNat) (g.drop (i + 1).toNat) = 0
          · rw [if_pos hf, if_pos hf]; simp
          · rw [if_neg hf, if_neg hf]
        · rw [if_neg hb, if_neg hb, hih _ (by omega)]
      · rw [if_neg hc] at hwe
        rw [fw_bad (by rw [hwe]; decide), hwe]
        simp only [metrolabref47_Worn.j1]
        by_cases hA : (!(x.f0.f0 == t.f0.f0) || (!(x.f0.f1 == t.f0.f1))) = true
        · rw [if_pos hA]; rfl
        · rw [if_neg hA]
          by_cases hB : (x.f1 != t.f4) = true
          · rw [if_pos hB]; rfl
          · exfalso; apply hc
            simp at hA hB
            exact ⟨hA.1, hA.2, hB⟩
    · rw [if_neg hL] at hwe ⊢
      rw [fw_bad (by rw [hwe]; decide), hwe]; rfl
theorem rworn (k : Nat) (hk : 100 ≤ k) (l : List S27) (g : List S56) : metrolabref47_Worn.f k l (g.map tl) = some (wo l g, wz l g) := by
  unfold metrolabref47_Worn.f wo wz
  rw [rcheck47 k (by omega)]
  simp only [Option.bind_some]
  by_cases hc : ce l = 0
  · rw [if_pos hc, if_pos hc]
    obtain ⟨hn1, hn2, hl⟩ := ce_ok hc
    by_cases he : g.length = l.length
    · rw [if_pos (by simp; omega), if_pos he, rworn_l0 l g (by omega) he hl g.length k [] 0 (by omega) (by omega) (by simp; omega) (by omega)]
      simp only [Int.toNat_zero, List.drop_zero, List.nil_append]
      by_cases hf : fw l g = 0
      · rw [if_pos hf, if_pos hf, hf]
      · rw [if_neg hf, if_neg hf]
    · rw [if_neg (by simp; omega), if_neg he]; rfl
  · rw [if_neg hc, if_neg hc, if_neg hc]
theorem idxs_len : ∀ (i : Int) (q : List Bool), (idxs i q).length ≤ q.length
  | _, [] => by simp [idxs]
  | i, b :: r => by
    have := idxs_len (i + 1) r
    show (if b = true then i :: idxs (i + 1) r else idxs (i + 1) r).length ≤ _
    split
    · simp; omega
    · simp; omega
theorem eq_l0 (l : List Int) (hn : l.length ≤ 1000) (d : Nat) : ∀ (k : Nat) (i : Int), 0 ≤ i → (l.length : Int) - i = d → d < k → slices_Equal_int_int.l0 k l l (l.length : Int) i = some true := by
  induction d with
  | zero =>
    intro k i h0 hd hk
    obtain ⟨k, rfl⟩ : ∃ m, k = m + 1 := ⟨k - 1, by omega⟩
    simp only [slices_Equal_int_int.l0]
    rw [if_neg (by omega)]
  | succ d ih =>
    intro k i h0 hd hk
    obtain ⟨k, rfl⟩ : ∃ m, k = m + 1 := ⟨k - 1, by omega⟩
    have h1 : i < (l.length : Int) := by omega
    simp only [slices_Equal_int_int.l0]
    rw [if_pos h1, if_pos h0, if_pos h1, if_pos h1, up64 h0 (by omega), ih k (i + 1) (by omega) (by omega) (by omega)]
    simp
theorem eq_ok (k : Nat) (l : List Int) (hn : l.length ≤ 1000) (hk : l.length < k) : slices_Equal_int_int.f k l l = some true := by
  unfold slices_Equal_int_int.f
  rw [if_pos rfl, eq_l0 l hn l.length k 0 (by omega) (by omega) hk]
theorem wears_pure (l : List S27) (g : List S56) : ∃ k, metrolablaw47_GaugeWears.f k l g = some true := by
  refine ⟨4000, ?_⟩
  unfold metrolablaw47_GaugeWears.f
  simp only [metrolablaw47_few.f, Option.bind_some, decide_eq_true_eq]
  by_cases hn : (l.length : Int) ≤ 32
  · rw [if_pos hn]
    simp only [metrolablaw47_GaugeWears.j0, decide_eq_true_eq]
    by_cases hg : (g.length : Int) > 40
    · rw [if_pos hg, awake_ok 3999 (by omega)]; rfl
    · rw [if_neg hg, gworn 3999 (by omega), tools_ok 3999 g (by omega) (by omega)]
      simp only [Option.bind_some]
      rw [rworn 3999 (by omega)]
      simp only [Option.bind_some, if_true]
      have hlen : (wo l g).length ≤ 40 := by
        unfold wo
        split
        · have := idxs_len 0 (List.zipWith wb l g)
          have h2 : (List.zipWith wb l g).length ≤ g.length := by simp; omega
          omega
        · simp
      rw [eq_ok 3999 _ (by omega) (by omega)]
      simp only [Option.bind_some, if_true]
      rw [awake_ok 3999 (by omega)]; rfl
  · rw [if_neg hn]
    simp only [metrolablaw47_GaugeWears.j0, if_true]
    rw [awake_ok 3999 (by omega)]; rfl
end Go.Proofs.YtjemaonejkepcaaDoor.G
