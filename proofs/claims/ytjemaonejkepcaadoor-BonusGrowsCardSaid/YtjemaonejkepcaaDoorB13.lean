/- Contracts of the Go functions that a law reaches, written by a program of ours over the kit's printer; not trusted: Lean checks them. -/
import Derived.Test.YtjemaonejkepcaaDoorB0
import Derived.Test.YtjemaonejkepcaaDoorB3
import Derived.Test.YtjemaonejkepcaaDoorB4
import Derived.Test.YtjemaonejkepcaaDoorB6
namespace Go.Proofs.YtjemaonejkepcaaDoor.B
open Go.RowKit Go.Proofs.YtjemaonejkepcaaDoorW.PrintWords Go.Proofs.YtjemaonejkepcaaDoorW.PrintLast Go.Proofs.YtjemaonejkepcaaDoorW.PrintMore
attribute [local go_sem] max2_int min2_int max_two min_two max_three min_three max_four min_four   -- for this text's walks alone
set_option linter.unusedVariables false
set_option linter.unusedSimpArgs false

/-! ### metrolablaw44_BonusGrows: function 9 -/
def metrolablaw44_BonusGrows.j0 : Nat → Int → Int → Int → Int → Int → Bool → Int → Int → Int → Int → Int → Int → Bool → Option (Bool)
  | 0, _, _, _, _, _, _, _, _, _, _, _, _, _ => none
  | k + 1, x5, x6, x8, x10, x11, x66, x268000, x268001, x268002, x268003, x268004, x268005, x268006 => if x66 = true then (some false) else (if x268005 = 0 then (if x11 = 0 then (if x8 = 0 then (if x6 = 0 then ((metrolablaw44_awake.f).bind fun t276 => (some t276)) else (some false)) else (some false)) else (some false)) else (if (wrap64 (x6 + x8)) = x5 then (if x11 = (mx (wrap64 (x6 - (wrap64 (x10 - x268002)))) (wrap64 ((wrap64 (x10 - x268002)) - x6))) then ((metrolablaw44_awake.f).bind fun t277 => (some t277)) else (some false)) else (some false)))
def metrolablaw44_BonusGrows.f (k : Nat) (a0_0 : Int) (a0_1 : Int) (a0_2 : Int) (a0_3 : Int) (a0_4 : Int) (a0_5 : Int) (a0_6 : Bool) (a1 : Int) : Option (Bool) := (metrolabref44_Check.f k a0_0 a0_1 a0_2 a0_3 a0_4 a0_5 a0_6).bind fun t268 => (if t268 = 0 then ((bonus_Bonus.f k a0_0 a0_1 a0_2 a0_3 a0_4 a0_5 a0_6 a0_2).bind fun bt270 => ((bonus_Bonus.f k a0_0 a0_1 a0_2 a0_3 a0_4 a0_5 a0_6 a0_3).bind fun bt272 => (if (wrap64 ((wrap64 (a0_3 - a0_2)) + 1)) = 0 then (none) else ((bonus_Bonus.f k a0_0 a0_1 a0_2 a0_3 a0_4 a0_5 a0_6 (wrap64 (a0_2 + (Int.tmod (wrap64 (a1)) (wrap64 ((wrap64 (a0_3 - a0_2)) + 1)))))).bind fun bt274 => (if (wrap64 ((wrap64 (bt270.2 + bt272.2)) + bt274.2)) = 0 then (metrolablaw44_BonusGrows.j0 k (wrap64 (a0_3 - a0_2)) bt270.1 bt272.1 (wrap64 (a0_2 + (Int.tmod (wrap64 (a1)) (wrap64 ((wrap64 (a0_3 - a0_2)) + 1))))) bt274.1 ((mn bt270.1 bt272.1) != 0) a0_0 a0_1 a0_2 a0_3 a0_4 a0_5 a0_6) else (metrolablaw44_BonusGrows.j0 k (wrap64 (a0_3 - a0_2)) bt270.1 bt272.1 (wrap64 (a0_2 + (Int.tmod (wrap64 (a1)) (wrap64 ((wrap64 (a0_3 - a0_2)) + 1))))) bt274.1 true a0_0 a0_1 a0_2 a0_3 a0_4 a0_5 a0_6)))))) else ((metrolablaw44_awake.f).bind fun t269 => (some t269)))
theorem metrolablaw44_BonusGrows.mono_l : ∀ k, (∀ y0 y1 y2 y3 y4 y5 y6 y7 y8 y9 y10 y11 y12, LeO (metrolablaw44_BonusGrows.j0 k y0 y1 y2 y3 y4 y5 y6 y7 y8 y9 y10 y11 y12) (metrolablaw44_BonusGrows.j0 (k + 1) y0 y1 y2 y3 y4 y5 y6 y7 y8 y9 y10 y11 y12))
  | 0 => fun _ _ _ _ _ _ _ _ _ _ _ _ _ r h => by simp [metrolablaw44_BonusGrows.j0] at h
  | k + 1 => by
    have ih0 := metrolablaw44_BonusGrows.mono_l k
    · intro y0 y1 y2 y3 y4 y5 y6 y7 y8 y9 y10 y11 y12
      unfold metrolablaw44_BonusGrows.j0
      repeat' first
      | (with_reducible exact ih0 _ _ _ _ _ _ _ _ _ _ _ _ _)
      | (with_reducible exact bonus_Bonus.mono _ _ _ _ _ _ _ _ _)
      | (with_reducible exact metrolabref44_Check.mono _ _ _ _ _ _ _ _)
      | (with_reducible exact LeO.refl _)
      | (with_reducible exact LeO.none _)
      | (with_reducible refine LeO.ite ?_ ?_)
      | (with_reducible refine LeO.bind ?_ (fun _ => ?_))
      | exact ih0 _ _ _ _ _ _ _ _ _ _ _ _ _
      | exact bonus_Bonus.mono _ _ _ _ _ _ _ _ _
      | exact metrolabref44_Check.mono _ _ _ _ _ _ _ _
      | exact LeO.none _
      | refine LeO.ite ?_ ?_
      | refine LeO.bind ?_ (fun _ => ?_)
theorem metrolablaw44_BonusGrows.mono : ∀ a0 a1 a2 a3 a4 a5 a6 a7 k, LeO (metrolablaw44_BonusGrows.f k a0 a1 a2 a3 a4 a5 a6 a7) (metrolablaw44_BonusGrows.f (k + 1) a0 a1 a2 a3 a4 a5 a6 a7) := by
  intro a0 a1 a2 a3 a4 a5 a6 a7 k
  have ih0 := metrolablaw44_BonusGrows.mono_l k
  unfold metrolablaw44_BonusGrows.f
  repeat' first
      | (with_reducible exact ih0 _ _ _ _ _ _ _ _ _ _ _ _ _)
      | (with_reducible exact bonus_Bonus.mono _ _ _ _ _ _ _ _ _)
      | (with_reducible exact metrolabref44_Check.mono _ _ _ _ _ _ _ _)
      | (with_reducible exact LeO.refl _)
      | (with_reducible exact LeO.none _)
      | (with_reducible refine LeO.ite ?_ ?_)
      | (with_reducible refine LeO.bind ?_ (fun _ => ?_))
      | exact ih0 _ _ _ _ _ _ _ _ _ _ _ _ _
      | exact bonus_Bonus.mono _ _ _ _ _ _ _ _ _
      | exact metrolabref44_Check.mono _ _ _ _ _ _ _ _
      | exact LeO.none _
      | refine LeO.ite ?_ ?_
      | refine LeO.bind ?_ (fun _ => ?_)
set_option maxHeartbeats 8000000 in
set_option maxRecDepth 100000 in
theorem metrolablaw44_BonusGrows.calls (k : Nat) (a0_0 : Int) (a0_1 : Int) (a0_2 : Int) (a0_3 : Int) (a0_4 : Int) (a0_5 : Int) (a0_6 : Bool) (a1 : Int) (r : Bool) (w : World) (h : metrolablaw44_BonusGrows.f k a0_0 a0_1 a0_2 a0_3 a0_4 a0_5 a0_6 a1 = some r) (hS : SignsAt w) :
    Calls Tryd.prog 9 #[.agg #[.int .i64 a0_0, .int .i64 a0_1, .int .i64 a0_2, .int .i64 a0_3, .int .i64 a0_4, .int .i64 a0_5, .bool a0_6], .int .u16 a1] w fun e w' => e = .returned (.bool r) ∧ Below w.heap.size w w' := by
  have HS := Aside0.mk hS
  clear hS
  have hu27 := Tryd.underlying27
  have HB := Aside0.mk (Below.refl w.heap.size w)
  have H : ((metrolabref44_Check.f k a0_0 a0_1 a0_2 a0_3 a0_4 a0_5 a0_6).bind fun t268 => (if t268 = 0 then ((bonus_Bonus.f k a0_0 a0_1 a0_2 a0_3 a0_4 a0_5 a0_6 a0_2).bind fun bt270 => ((bonus_Bonus.f k a0_0 a0_1 a0_2 a0_3 a0_4 a0_5 a0_6 a0_3).bind fun bt272 => (if (wrap64 ((wrap64 (a0_3 - a0_2)) + 1)) = 0 then (none) else ((bonus_Bonus.f k a0_0 a0_1 a0_2 a0_3 a0_4 a0_5 a0_6 (wrap64 (a0_2 + (Int.tmod (wrap64 (a1)) (wrap64 ((wrap64 (a0_3 - a0_2)) + 1)))))).bind fun bt274 => (if (wrap64 ((wrap64 (bt270.2 + bt272.2)) + bt274.2)) = 0 then (metrolablaw44_BonusGrows.j0 k (wrap64 (a0_3 - a0_2)) bt270.1 bt272.1 (wrap64 (a0_2 + (Int.tmod (wrap64 (a1)) (wrap64 ((wrap64 (a0_3 - a0_2)) + 1))))) bt274.1 ((mn bt270.1 bt272.1) != 0) a0_0 a0_1 a0_2 a0_3 a0_4 a0_5 a0_6) else (metrolablaw44_BonusGrows.j0 k (wrap64 (a0_3 - a0_2)) bt270.1 bt272.1 (wrap64 (a0_2 + (Int.tmod (wrap64 (a1)) (wrap64 ((wrap64 (a0_3 - a0_2)) + 1))))) bt274.1 true a0_0 a0_1 a0_2 a0_3 a0_4 a0_5 a0_6)))))) else ((metrolablaw44_awake.f).bind fun t269 => (some t269)))) = some r := h
  clear h
  replace H := Option.bind_eq_some_iff.mp H
  obtain ⟨t268, A30, H⟩ := H
  replace H : (if t268 = 0 then ((bonus_Bonus.f k a0_0 a0_1 a0_2 a0_3 a0_4 a0_5 a0_6 a0_2).bind fun bt270 => ((bonus_Bonus.f k a0_0 a0_1 a0_2 a0_3 a0_4 a0_5 a0_6 a0_3).bind fun bt272 => (if (wrap64 ((wrap64 (a0_3 - a0_2)) + 1)) = 0 then (none) else ((bonus_Bonus.f k a0_0 a0_1 a0_2 a0_3 a0_4 a0_5 a0_6 (wrap64 (a0_2 + (Int.tmod (wrap64 (a1)) (wrap64 ((wrap64 (a0_3 - a0_2)) + 1)))))).bind fun bt274 => (if (wrap64 ((wrap64 (bt270.2 + bt272.2)) + bt274.2)) = 0 then (metrolablaw44_BonusGrows.j0 k (wrap64 (a0_3 - a0_2)) bt270.1 bt272.1 (wrap64 (a0_2 + (Int.tmod (wrap64 (a1)) (wrap64 ((wrap64 (a0_3 - a0_2)) + 1))))) bt274.1 ((mn bt270.1 bt272.1) != 0) a0_0 a0_1 a0_2 a0_3 a0_4 a0_5 a0_6) else (metrolablaw44_BonusGrows.j0 k (wrap64 (a0_3 - a0_2)) bt270.1 bt272.1 (wrap64 (a0_2 + (Int.tmod (wrap64 (a1)) (wrap64 ((wrap64 (a0_3 - a0_2)) + 1))))) bt274.1 true a0_0 a0_1 a0_2 a0_3 a0_4 a0_5 a0_6)))))) else ((metrolablaw44_awake.f).bind fun t269 => (some t269))) = some r := H
  have A3 := Aside0.mk A30
  clear A30
  by_cases c4 : t268 = 0
  · rw [if_pos c4] at H
    have c4b0 : (t268 == 0) = true := beq_iff_eq.mpr c4
    have c4b1 : (t268 != 0) = false := bne_eq_false_iff_eq.mpr c4
    clear c4
    replace H := Option.bind_eq_some_iff.mp H
    obtain ⟨⟨t270, t271⟩, A50, H⟩ := H
    replace H : ((bonus_Bonus.f k a0_0 a0_1 a0_2 a0_3 a0_4 a0_5 a0_6 a0_3).bind fun bt272 => (if (wrap64 ((wrap64 (a0_3 - a0_2)) + 1)) = 0 then (none) else ((bonus_Bonus.f k a0_0 a0_1 a0_2 a0_3 a0_4 a0_5 a0_6 (wrap64 (a0_2 + (Int.tmod (wrap64 (a1)) (wrap64 ((wrap64 (a0_3 - a0_2)) + 1)))))).bind fun bt274 => (if (wrap64 ((wrap64 (t271 + bt272.2)) + bt274.2)) = 0 then (metrolablaw44_BonusGrows.j0 k (wrap64 (a0_3 - a0_2)) t270 bt272.1 (wrap64 (a0_2 + (Int.tmod (wrap64 (a1)) (wrap64 ((wrap64 (a0_3 - a0_2)) + 1))))) bt274.1 ((mn t270 bt272.1) != 0) a0_0 a0_1 a0_2 a0_3 a0_4 a0_5 a0_6) else (metrolablaw44_BonusGrows.j0 k (wrap64 (a0_3 - a0_2)) t270 bt272.1 (wrap64 (a0_2 + (Int.tmod (wrap64 (a1)) (wrap64 ((wrap64 (a0_3 - a0_2)) + 1))))) bt274.1 true a0_0 a0_1 a0_2 a0_3 a0_4 a0_5 a0_6))))) = some r := H
    have A5 := Aside0.mk A50
    clear A50
    replace H := Option.bind_eq_some_iff.mp H
    obtain ⟨⟨t272, t273⟩, A60, H⟩ := H
    replace H : (if (wrap64 ((wrap64 (a0_3 - a0_2)) + 1)) = 0 then (none) else ((bonus_Bonus.f k a0_0 a0_1 a0_2 a0_3 a0_4 a0_5 a0_6 (wrap64 (a0_2 + (Int.tmod (wrap64 (a1)) (wrap64 ((wrap64 (a0_3 - a0_2)) + 1)))))).bind fun bt274 => (if (wrap64 ((wrap64 (t271 + t273)) + bt274.2)) = 0 then (metrolablaw44_BonusGrows.j0 k (wrap64 (a0_3 - a0_2)) t270 t272 (wrap64 (a0_2 + (Int.tmod (wrap64 (a1)) (wrap64 ((wrap64 (a0_3 - a0_2)) + 1))))) bt274.1 ((mn t270 t272) != 0) a0_0 a0_1 a0_2 a0_3 a0_4 a0_5 a0_6) else (metrolablaw44_BonusGrows.j0 k (wrap64 (a0_3 - a0_2)) t270 t272 (wrap64 (a0_2 + (Int.tmod (wrap64 (a1)) (wrap64 ((wrap64 (a0_3 - a0_2)) + 1))))) bt274.1 true a0_0 a0_1 a0_2 a0_3 a0_4 a0_5 a0_6)))) = some r := H
    have A6 := Aside0.mk A60
    clear A60
    by_cases c7 : (wrap64 ((wrap64 (a0_3 - a0_2)) + 1)) = 0
    · rw [if_pos c7] at H
      exact absurd H (by simp)
    · rw [if_neg c7] at H
      have c7b0 : ((wrap64 ((wrap64 (a0_3 - a0_2)) + 1)) == 0) = false := beq_eq_false_iff_ne.mpr c7
      have c7b1 : ((wrap64 ((wrap64 (a0_3 - a0_2)) + 1)) != 0) = true := bne_iff_ne.mpr c7
      replace H := Option.bind_eq_some_iff.mp H
      obtain ⟨⟨t274, t275⟩, A80, H⟩ := H
      replace H : (if (wrap64 ((wrap64 (t271 + t273)) + t275)) = 0 then (metrolablaw44_BonusGrows.j0 k (wrap64 (a0_3 - a0_2)) t270 t272 (wrap64 (a0_2 + (Int.tmod (wrap64 (a1)) (wrap64 ((wrap64 (a0_3 - a0_2)) + 1))))) t274 ((mn t270 t272) != 0) a0_0 a0_1 a0_2 a0_3 a0_4 a0_5 a0_6) else (metrolablaw44_BonusGrows.j0 k (wrap64 (a0_3 - a0_2)) t270 t272 (wrap64 (a0_2 + (Int.tmod (wrap64 (a1)) (wrap64 ((wrap64 (a0_3 - a0_2)) + 1))))) t274 true a0_0 a0_1 a0_2 a0_3 a0_4 a0_5 a0_6)) = some r := H
      have A8 := Aside0.mk A80
      clear A80
      have HC9 := Aside0.mk H
      clear H
      go_enter Tryd.func9, Tryd.ntmps9
      go_upto_region 8 with (first | ((with_reducible refine gate_dst (N := 2) rfl ?_); (try (refine gate_guard (by rfl) ?_; dsimp only)); refine box_event ?hg (N := 2) ?hd (cs := #[.int .i64 a0_0, .int .i64 a0_1, .int .i64 a0_2, .int .i64 a0_3, .int .i64 a0_4, .int .i64 a0_5, .bool a0_6]) (t := 27) ?hr ?_; (case hd => rfl); (case hg => rfl); (case hr => first | (go_simp; done) | (go_simp; rfl)); intro gb267 hg w10 hbox hb; have n0_ := Aside0.mk (below_step (by repeat (first | (with_reducible first | exact HB.out | apply below_alloc | apply pw_below_drewN | apply below_drew1) | exact HB.out)) hb); have n1_ := Aside0.mk (hbox); have n2_ := Aside0.mk ((by rw [hg]; exact (below_size (by repeat (first | (with_reducible first | exact HB.out | apply below_alloc | apply pw_below_drewN | apply below_drew1) | exact HB.out))) : w.heap.size ≤ gb267)); have n3_ := Aside0.mk ((by rw [hg]; exact (below_size (by repeat (first | (with_reducible first | exact HB.out | apply below_alloc | apply pw_below_drewN | apply below_drew1) | exact HB.out))) : w.heap.size ≤ gb267)); clear HB; have HB := n0_; have BK267 := n1_; have GW267 := n2_; have GE267 := n3_; clear n0_ n1_ n2_ n3_; clear hb hbox hg; have hcz11_0 : w10.cell? ⟨gb267, 0, none⟩ = some (.int .i64 a0_0) := (blk_cell BK267.out 0).trans rfl; have hcz11_1 : w10.cell? ⟨gb267, 1, none⟩ = some (.int .i64 a0_1) := (blk_cell BK267.out 1).trans rfl; have hcz11_2 : w10.cell? ⟨gb267, 2, none⟩ = some (.int .i64 a0_2) := (blk_cell BK267.out 2).trans rfl; have hcz11_3 : w10.cell? ⟨gb267, 3, none⟩ = some (.int .i64 a0_3) := (blk_cell BK267.out 3).trans rfl; have hcz11_4 : w10.cell? ⟨gb267, 4, none⟩ = some (.int .i64 a0_4) := (blk_cell BK267.out 4).trans rfl; have hcz11_5 : w10.cell? ⟨gb267, 5, none⟩ = some (.int .i64 a0_5) := (blk_cell BK267.out 5).trans rfl; have hcz11_6 : w10.cell? ⟨gb267, 6, none⟩ = some (.bool a0_6) := (blk_cell BK267.out 6).trans rfl; have hfz11_0 := blk_frozen BK267.out 0; have hfz11_1 := blk_frozen BK267.out 1; have hfz11_2 := blk_frozen BK267.out 2; have hfz11_3 := blk_frozen BK267.out 3; have hfz11_4 := blk_frozen BK267.out 4; have hfz11_5 := blk_frozen BK267.out 5; have hfz11_6 := blk_frozen BK267.out 6) | (go_at_call 23; (with_reducible refine (metrolabref44_Check.calls k a0_0 a0_1 a0_2 a0_3 a0_4 a0_5 a0_6 t268 _ A3.out).mono ?_); rintro e w12 ⟨rfl, hb⟩; have n0_ := Aside0.mk (blk_below (g := gb267) (o := .cells #[.int .i64 a0_0, .int .i64 a0_1, .int .i64 a0_2, .int .i64 a0_3, .int .i64 a0_4, .int .i64 a0_5, .bool a0_6] 27 (0, 0)) (by (with_reducible repeat (first | refine blk_drewN ?_ _ | refine blk_drew ?_ | refine blk_alloc ?_ _)); exact BK267.out) hb); have n1_ := Aside0.mk (below_step (by repeat (first | (with_reducible first | exact HB.out | apply below_alloc | apply pw_below_drewN | apply below_drew1 | refine below_set ?_ GE267.out) | exact HB.out)) hb); clear BK267; clear HB; have BK267 := n0_; have HB := n1_; clear n0_ n1_; (try clear hb); (try clear hb2); (try clear hk); (try clear hi); have hcz13_0 : w12.cell? ⟨gb267, 0, none⟩ = some (.int .i64 a0_0) := (blk_cell BK267.out 0).trans rfl; have hcz13_1 : w12.cell? ⟨gb267, 1, none⟩ = some (.int .i64 a0_1) := (blk_cell BK267.out 1).trans rfl; have hcz13_2 : w12.cell? ⟨gb267, 2, none⟩ = some (.int .i64 a0_2) := (blk_cell BK267.out 2).trans rfl; have hcz13_3 : w12.cell? ⟨gb267, 3, none⟩ = some (.int .i64 a0_3) := (blk_cell BK267.out 3).trans rfl; have hcz13_4 : w12.cell? ⟨gb267, 4, none⟩ = some (.int .i64 a0_4) := (blk_cell BK267.out 4).trans rfl; have hcz13_5 : w12.cell? ⟨gb267, 5, none⟩ = some (.int .i64 a0_5) := (blk_cell BK267.out 5).trans rfl; have hcz13_6 : w12.cell? ⟨gb267, 6, none⟩ = some (.bool a0_6) := (blk_cell BK267.out 6).trans rfl; have hfz13_0 := blk_frozen BK267.out 0; have hfz13_1 := blk_frozen BK267.out 1; have hfz13_2 := blk_frozen BK267.out 2; have hfz13_3 := blk_frozen BK267.out 3; have hfz13_4 := blk_frozen BK267.out 4; have hfz13_5 := blk_frozen BK267.out 5; have hfz13_6 := blk_frozen BK267.out 6) | (go_at_call 25; (with_reducible refine (bonus_Bonus.calls k a0_0 a0_1 a0_2 a0_3 a0_4 a0_5 a0_6 a0_2 t270 t271 _ A5.out (by exact sig_below HS.out (by repeat (first | (with_reducible first | exact HB.out | apply below_alloc | apply pw_below_drewN | apply below_drew1 | refine below_set ?_ GE267.out) | exact HB.out)))).mono ?_); rintro e w14 ⟨rfl, hb⟩; have n0_ := Aside0.mk (blk_below (g := gb267) (o := .cells #[.int .i64 a0_0, .int .i64 a0_1, .int .i64 a0_2, .int .i64 a0_3, .int .i64 a0_4, .int .i64 a0_5, .bool a0_6] 27 (0, 0)) (by (with_reducible repeat (first | refine blk_drewN ?_ _ | refine blk_drew ?_ | refine blk_alloc ?_ _)); exact BK267.out) hb); have n1_ := Aside0.mk (below_step (by repeat (first | (with_reducible first | exact HB.out | apply below_alloc | apply pw_below_drewN | apply below_drew1 | refine below_set ?_ GE267.out) | exact HB.out)) hb); clear BK267; clear HB; have BK267 := n0_; have HB := n1_; clear n0_ n1_; (try clear hb); (try clear hb2); (try clear hk); (try clear hi); have hcz15_0 : w14.cell? ⟨gb267, 0, none⟩ = some (.int .i64 a0_0) := (blk_cell BK267.out 0).trans rfl; have hcz15_1 : w14.cell? ⟨gb267, 1, none⟩ = some (.int .i64 a0_1) := (blk_cell BK267.out 1).trans rfl; have hcz15_2 : w14.cell? ⟨gb267, 2, none⟩ = some (.int .i64 a0_2) := (blk_cell BK267.out 2).trans rfl; have hcz15_3 : w14.cell? ⟨gb267, 3, none⟩ = some (.int .i64 a0_3) := (blk_cell BK267.out 3).trans rfl; have hcz15_4 : w14.cell? ⟨gb267, 4, none⟩ = some (.int .i64 a0_4) := (blk_cell BK267.out 4).trans rfl; have hcz15_5 : w14.cell? ⟨gb267, 5, none⟩ = some (.int .i64 a0_5) := (blk_cell BK267.out 5).trans rfl; have hcz15_6 : w14.cell? ⟨gb267, 6, none⟩ = some (.bool a0_6) := (blk_cell BK267.out 6).trans rfl; have hfz15_0 := blk_frozen BK267.out 0; have hfz15_1 := blk_frozen BK267.out 1; have hfz15_2 := blk_frozen BK267.out 2; have hfz15_3 := blk_frozen BK267.out 3; have hfz15_4 := blk_frozen BK267.out 4; have hfz15_5 := blk_frozen BK267.out 5; have hfz15_6 := blk_frozen BK267.out 6) | (go_at_call 25; (with_reducible refine (bonus_Bonus.calls k a0_0 a0_1 a0_2 a0_3 a0_4 a0_5 a0_6 a0_3 t272 t273 _ A6.out (by exact sig_below HS.out (by repeat (first | (with_reducible first | exact HB.out | apply below_alloc | apply pw_below_drewN | apply below_drew1 | refine below_set ?_ GE267.out) | exact HB.out)))).mono ?_); rintro e w16 ⟨rfl, hb⟩; have n0_ := Aside0.mk (blk_below (g := gb267) (o := .cells #[.int .i64 a0_0, .int .i64 a0_1, .int .i64 a0_2, .int .i64 a0_3, .int .i64 a0_4, .int .i64 a0_5, .bool a0_6] 27 (0, 0)) (by (with_reducible repeat (first | refine blk_drewN ?_ _ | refine blk_drew ?_ | refine blk_alloc ?_ _)); exact BK267.out) hb); have n1_ := Aside0.mk (below_step (by repeat (first | (with_reducible first | exact HB.out | apply below_alloc | apply pw_below_drewN | apply below_drew1 | refine below_set ?_ GE267.out) | exact HB.out)) hb); clear BK267; clear HB; have BK267 := n0_; have HB := n1_; clear n0_ n1_; (try clear hb); (try clear hb2); (try clear hk); (try clear hi); have hcz17_0 : w16.cell? ⟨gb267, 0, none⟩ = some (.int .i64 a0_0) := (blk_cell BK267.out 0).trans rfl; have hcz17_1 : w16.cell? ⟨gb267, 1, none⟩ = some (.int .i64 a0_1) := (blk_cell BK267.out 1).trans rfl; have hcz17_2 : w16.cell? ⟨gb267, 2, none⟩ = some (.int .i64 a0_2) := (blk_cell BK267.out 2).trans rfl; have hcz17_3 : w16.cell? ⟨gb267, 3, none⟩ = some (.int .i64 a0_3) := (blk_cell BK267.out 3).trans rfl; have hcz17_4 : w16.cell? ⟨gb267, 4, none⟩ = some (.int .i64 a0_4) := (blk_cell BK267.out 4).trans rfl; have hcz17_5 : w16.cell? ⟨gb267, 5, none⟩ = some (.int .i64 a0_5) := (blk_cell BK267.out 5).trans rfl; have hcz17_6 : w16.cell? ⟨gb267, 6, none⟩ = some (.bool a0_6) := (blk_cell BK267.out 6).trans rfl; have hfz17_0 := blk_frozen BK267.out 0; have hfz17_1 := blk_frozen BK267.out 1; have hfz17_2 := blk_frozen BK267.out 2; have hfz17_3 := blk_frozen BK267.out 3; have hfz17_4 := blk_frozen BK267.out 4; have hfz17_5 := blk_frozen BK267.out 5; have hfz17_6 := blk_frozen BK267.out 6) | (go_at_call 25; (with_reducible refine (bonus_Bonus.calls k a0_0 a0_1 a0_2 a0_3 a0_4 a0_5 a0_6 (wrap64 (a0_2 + (Int.tmod (wrap64 (a1)) (wrap64 ((wrap64 (a0_3 - a0_2)) + 1))))) t274 t275 _ A8.out (by exact sig_below HS.out (by repeat (first | (with_reducible first | exact HB.out | apply below_alloc | apply pw_below_drewN | apply below_drew1 | refine below_set ?_ GE267.out) | exact HB.out)))).mono ?_); rintro e w18 ⟨rfl, hb⟩; have n0_ := Aside0.mk (blk_below (g := gb267) (o := .cells #[.int .i64 a0_0, .int .i64 a0_1, .int .i64 a0_2, .int .i64 a0_3, .int .i64 a0_4, .int .i64 a0_5, .bool a0_6] 27 (0, 0)) (by (with_reducible repeat (first | refine blk_drewN ?_ _ | refine blk_drew ?_ | refine blk_alloc ?_ _)); exact BK267.out) hb); have n1_ := Aside0.mk (below_step (by repeat (first | (with_reducible first | exact HB.out | apply below_alloc | apply pw_below_drewN | apply below_drew1 | refine below_set ?_ GE267.out) | exact HB.out)) hb); clear BK267; clear HB; have BK267 := n0_; have HB := n1_; clear n0_ n1_; (try clear hb); (try clear hb2); (try clear hk); (try clear hi)))
      repeat (go_quiet (first | ((with_reducible refine gate_dst (N := 2) rfl ?_); (try (refine gate_guard (by rfl) ?_; dsimp only)); refine box_event ?hg (N := 2) ?hd (cs := #[.int .i64 a0_0, .int .i64 a0_1, .int .i64 a0_2, .int .i64 a0_3, .int .i64 a0_4, .int .i64 a0_5, .bool a0_6]) (t := 27) ?hr ?_; (case hd => rfl); (case hg => rfl); (case hr => first | (go_simp; done) | (go_simp; rfl)); intro gb267 hg w10 hbox hb; have n0_ := Aside0.mk (below_step (by repeat (first | (with_reducible first | exact HB.out | apply below_alloc | apply pw_below_drewN | apply below_drew1) | exact HB.out)) hb); have n1_ := Aside0.mk (hbox); have n2_ := Aside0.mk ((by rw [hg]; exact (below_size (by repeat (first | (with_reducible first | exact HB.out | apply below_alloc | apply pw_below_drewN | apply below_drew1) | exact HB.out))) : w.heap.size ≤ gb267)); have n3_ := Aside0.mk ((by rw [hg]; exact (below_size (by repeat (first | (with_reducible first | exact HB.out | apply below_alloc | apply pw_below_drewN | apply below_drew1) | exact HB.out))) : w.heap.size ≤ gb267)); clear HB; have HB := n0_; have BK267 := n1_; have GW267 := n2_; have GE267 := n3_; clear n0_ n1_ n2_ n3_; clear hb hbox hg; have hcz11_0 : w10.cell? ⟨gb267, 0, none⟩ = some (.int .i64 a0_0) := (blk_cell BK267.out 0).trans rfl; have hcz11_1 : w10.cell? ⟨gb267, 1, none⟩ = some (.int .i64 a0_1) := (blk_cell BK267.out 1).trans rfl; have hcz11_2 : w10.cell? ⟨gb267, 2, none⟩ = some (.int .i64 a0_2) := (blk_cell BK267.out 2).trans rfl; have hcz11_3 : w10.cell? ⟨gb267, 3, none⟩ = some (.int .i64 a0_3) := (blk_cell BK267.out 3).trans rfl; have hcz11_4 : w10.cell? ⟨gb267, 4, none⟩ = some (.int .i64 a0_4) := (blk_cell BK267.out 4).trans rfl; have hcz11_5 : w10.cell? ⟨gb267, 5, none⟩ = some (.int .i64 a0_5) := (blk_cell BK267.out 5).trans rfl; have hcz11_6 : w10.cell? ⟨gb267, 6, none⟩ = some (.bool a0_6) := (blk_cell BK267.out 6).trans rfl; have hfz11_0 := blk_frozen BK267.out 0; have hfz11_1 := blk_frozen BK267.out 1; have hfz11_2 := blk_frozen BK267.out 2; have hfz11_3 := blk_frozen BK267.out 3; have hfz11_4 := blk_frozen BK267.out 4; have hfz11_5 := blk_frozen BK267.out 5; have hfz11_6 := blk_frozen BK267.out 6) | (go_at_call 23; (with_reducible refine (metrolabref44_Check.calls k a0_0 a0_1 a0_2 a0_3 a0_4 a0_5 a0_6 t268 _ A3.out).mono ?_); rintro e w12 ⟨rfl, hb⟩; have n0_ := Aside0.mk (blk_below (g := gb267) (o := .cells #[.int .i64 a0_0, .int .i64 a0_1, .int .i64 a0_2, .int .i64 a0_3, .int .i64 a0_4, .int .i64 a0_5, .bool a0_6] 27 (0, 0)) (by (with_reducible repeat (first | refine blk_drewN ?_ _ | refine blk_drew ?_ | refine blk_alloc ?_ _)); exact BK267.out) hb); have n1_ := Aside0.mk (below_step (by repeat (first | (with_reducible first | exact HB.out | apply below_alloc | apply pw_below_drewN | apply below_drew1 | refine below_set ?_ GE267.out) | exact HB.out)) hb); clear BK267; clear HB; have BK267 := n0_; have HB := n1_; clear n0_ n1_; (try clear hb); (try clear hb2); (try clear hk); (try clear hi); have hcz13_0 : w12.cell? ⟨gb267, 0, none⟩ = some (.int .i64 a0_0) := (blk_cell BK267.out 0).trans rfl; have hcz13_1 : w12.cell? ⟨gb267, 1, none⟩ = some (.int .i64 a0_1) := (blk_cell BK267.out 1).trans rfl; have hcz13_2 : w12.cell? ⟨gb267, 2, none⟩ = some (.int .i64 a0_2) := (blk_cell BK267.out 2).trans rfl; have hcz13_3 : w12.cell? ⟨gb267, 3, none⟩ = some (.int .i64 a0_3) := (blk_cell BK267.out 3).trans rfl; have hcz13_4 : w12.cell? ⟨gb267, 4, none⟩ = some (.int .i64 a0_4) := (blk_cell BK267.out 4).trans rfl; have hcz13_5 : w12.cell? ⟨gb267, 5, none⟩ = some (.int .i64 a0_5) := (blk_cell BK267.out 5).trans rfl; have hcz13_6 : w12.cell? ⟨gb267, 6, none⟩ = some (.bool a0_6) := (blk_cell BK267.out 6).trans rfl; have hfz13_0 := blk_frozen BK267.out 0; have hfz13_1 := blk_frozen BK267.out 1; have hfz13_2 := blk_frozen BK267.out 2; have hfz13_3 := blk_frozen BK267.out 3; have hfz13_4 := blk_frozen BK267.out 4; have hfz13_5 := blk_frozen BK267.out 5; have hfz13_6 := blk_frozen BK267.out 6) | (go_at_call 25; (with_reducible refine (bonus_Bonus.calls k a0_0 a0_1 a0_2 a0_3 a0_4 a0_5 a0_6 a0_2 t270 t271 _ A5.out (by exact sig_below HS.out (by repeat (first | (with_reducible first | exact HB.out | apply below_alloc | apply pw_below_drewN | apply below_drew1 | refine below_set ?_ GE267.out) | exact HB.out)))).mono ?_); rintro e w14 ⟨rfl, hb⟩; have n0_ := Aside0.mk (blk_below (g := gb267) (o := .cells #[.int .i64 a0_0, .int .i64 a0_1, .int .i64 a0_2, .int .i64 a0_3, .int .i64 a0_4, .int .i64 a0_5, .bool a0_6] 27 (0, 0)) (by (with_reducible repeat (first | refine blk_drewN ?_ _ | refine blk_drew ?_ | refine blk_alloc ?_ _)); exact BK267.out) hb); have n1_ := Aside0.mk (below_step (by repeat (first | (with_reducible first | exact HB.out | apply below_alloc | apply pw_below_drewN | apply below_drew1 | refine below_set ?_ GE267.out) | exact HB.out)) hb); clear BK267; clear HB; have BK267 := n0_; have HB := n1_; clear n0_ n1_; (try clear hb); (try clear hb2); (try clear hk); (try clear hi); have hcz15_0 : w14.cell? ⟨gb267, 0, none⟩ = some (.int .i64 a0_0) := (blk_cell BK267.out 0).trans rfl; have hcz15_1 : w14.cell? ⟨gb267, 1, none⟩ = some (.int .i64 a0_1) := (blk_cell BK267.out 1).trans rfl; have hcz15_2 : w14.cell? ⟨gb267, 2, none⟩ = some (.int .i64 a0_2) := (blk_cell BK267.out 2).trans rfl; have hcz15_3 : w14.cell? ⟨gb267, 3, none⟩ = some (.int .i64 a0_3) := (blk_cell BK267.out 3).trans rfl; have hcz15_4 : w14.cell? ⟨gb267, 4, none⟩ = some (.int .i64 a0_4) := (blk_cell BK267.out 4).trans rfl; have hcz15_5 : w14.cell? ⟨gb267, 5, none⟩ = some (.int .i64 a0_5) := (blk_cell BK267.out 5).trans rfl; have hcz15_6 : w14.cell? ⟨gb267, 6, none⟩ = some (.bool a0_6) := (blk_cell BK267.out 6).trans rfl; have hfz15_0 := blk_frozen BK267.out 0; have hfz15_1 := blk_frozen BK267.out 1; have hfz15_2 := blk_frozen BK267.out 2; have hfz15_3 := blk_frozen BK267.out 3; have hfz15_4 := blk_frozen BK267.out 4; have hfz15_5 := blk_frozen BK267.out 5; have hfz15_6 := blk_frozen BK267.out 6) | (go_at_call 25; (with_reducible refine (bonus_Bonus.calls k a0_0 a0_1 a0_2 a0_3 a0_4 a0_5 a0_6 a0_3 t272 t273 _ A6.out (by exact sig_below HS.out (by repeat (first | (with_reducible first | exact HB.out | apply below_alloc | apply pw_below_drewN | apply below_drew1 | refine below_set ?_ GE267.out) | exact HB.out)))).mono ?_); rintro e w16 ⟨rfl, hb⟩; have n0_ := Aside0.mk (blk_below (g := gb267) (o := .cells #[.int .i64 a0_0, .int .i64 a0_1, .int .i64 a0_2, .int .i64 a0_3, .int .i64 a0_4, .int .i64 a0_5, .bool a0_6] 27 (0, 0)) (by (with_reducible repeat (first | refine blk_drewN ?_ _ | refine blk_drew ?_ | refine blk_alloc ?_ _)); exact BK267.out) hb); have n1_ := Aside0.mk (below_step (by repeat (first | (with_reducible first | exact HB.out | apply below_alloc | apply pw_below_drewN | apply below_drew1 | refine below_set ?_ GE267.out) | exact HB.out)) hb); clear BK267; clear HB; have BK267 := n0_; have HB := n1_; clear n0_ n1_; (try clear hb); (try clear hb2); (try clear hk); (try clear hi); have hcz17_0 : w16.cell? ⟨gb267, 0, none⟩ = some (.int .i64 a0_0) := (blk_cell BK267.out 0).trans rfl; have hcz17_1 : w16.cell? ⟨gb267, 1, none⟩ = some (.int .i64 a0_1) := (blk_cell BK267.out 1).trans rfl; have hcz17_2 : w16.cell? ⟨gb267, 2, none⟩ = some (.int .i64 a0_2) := (blk_cell BK267.out 2).trans rfl; have hcz17_3 : w16.cell? ⟨gb267, 3, none⟩ = some (.int .i64 a0_3) := (blk_cell BK267.out 3).trans rfl; have hcz17_4 : w16.cell? ⟨gb267, 4, none⟩ = some (.int .i64 a0_4) := (blk_cell BK267.out 4).trans rfl; have hcz17_5 : w16.cell? ⟨gb267, 5, none⟩ = some (.int .i64 a0_5) := (blk_cell BK267.out 5).trans rfl; have hcz17_6 : w16.cell? ⟨gb267, 6, none⟩ = some (.bool a0_6) := (blk_cell BK267.out 6).trans rfl; have hfz17_0 := blk_frozen BK267.out 0; have hfz17_1 := blk_frozen BK267.out 1; have hfz17_2 := blk_frozen BK267.out 2; have hfz17_3 := blk_frozen BK267.out 3; have hfz17_4 := blk_frozen BK267.out 4; have hfz17_5 := blk_frozen BK267.out 5; have hfz17_6 := blk_frozen BK267.out 6) | (go_at_call 25; (with_reducible refine (bonus_Bonus.calls k a0_0 a0_1 a0_2 a0_3 a0_4 a0_5 a0_6 (wrap64 (a0_2 + (Int.tmod (wrap64 (a1)) (wrap64 ((wrap64 (a0_3 - a0_2)) + 1))))) t274 t275 _ A8.out (by exact sig_below HS.out (by repeat (first | (with_reducible first | exact HB.out | apply below_alloc | apply pw_below_drewN | apply below_drew1 | refine below_set ?_ GE267.out) | exact HB.out)))).mono ?_); rintro e w18 ⟨rfl, hb⟩; have n0_ := Aside0.mk (blk_below (g := gb267) (o := .cells #[.int .i64 a0_0, .int .i64 a0_1, .int .i64 a0_2, .int .i64 a0_3, .int .i64 a0_4, .int .i64 a0_5, .bool a0_6] 27 (0, 0)) (by (with_reducible repeat (first | refine blk_drewN ?_ _ | refine blk_drew ?_ | refine blk_alloc ?_ _)); exact BK267.out) hb); have n1_ := Aside0.mk (below_step (by repeat (first | (with_reducible first | exact HB.out | apply below_alloc | apply pw_below_drewN | apply below_drew1 | refine below_set ?_ GE267.out) | exact HB.out)) hb); clear BK267; clear HB; have BK267 := n0_; have HB := n1_; clear n0_ n1_; (try clear hb); (try clear hb2); (try clear hk); (try clear hi))); go_upto_region 8 with (first | ((with_reducible refine gate_dst (N := 2) rfl ?_); (try (refine gate_guard (by rfl) ?_; dsimp only)); refine box_event ?hg (N := 2) ?hd (cs := #[.int .i64 a0_0, .int .i64 a0_1, .int .i64 a0_2, .int .i64 a0_3, .int .i64 a0_4, .int .i64 a0_5, .bool a0_6]) (t := 27) ?hr ?_; (case hd => rfl); (case hg => rfl); (case hr => first | (go_simp; done) | (go_simp; rfl)); intro gb267 hg w10 hbox hb; have n0_ := Aside0.mk (below_step (by repeat (first | (with_reducible first | exact HB.out | apply below_alloc | apply pw_below_drewN | apply below_drew1) | exact HB.out)) hb); have n1_ := Aside0.mk (hbox); have n2_ := Aside0.mk ((by rw [hg]; exact (below_size (by repeat (first | (with_reducible first | exact HB.out | apply below_alloc | apply pw_below_drewN | apply below_drew1) | exact HB.out))) : w.heap.size ≤ gb267)); have n3_ := Aside0.mk ((by rw [hg]; exact (below_size (by repeat (first | (with_reducible first | exact HB.out | apply below_alloc | apply pw_below_drewN | apply below_drew1) | exact HB.out))) : w.heap.size ≤ gb267)); clear HB; have HB := n0_; have BK267 := n1_; have GW267 := n2_; have GE267 := n3_; clear n0_ n1_ n2_ n3_; clear hb hbox hg; have hcz11_0 : w10.cell? ⟨gb267, 0, none⟩ = some (.int .i64 a0_0) := (blk_cell BK267.out 0).trans rfl; have hcz11_1 : w10.cell? ⟨gb267, 1, none⟩ = some (.int .i64 a0_1) := (blk_cell BK267.out 1).trans rfl; have hcz11_2 : w10.cell? ⟨gb267, 2, none⟩ = some (.int .i64 a0_2) := (blk_cell BK267.out 2).trans rfl; have hcz11_3 : w10.cell? ⟨gb267, 3, none⟩ = some (.int .i64 a0_3) := (blk_cell BK267.out 3).trans rfl; have hcz11_4 : w10.cell? ⟨gb267, 4, none⟩ = some (.int .i64 a0_4) := (blk_cell BK267.out 4).trans rfl; have hcz11_5 : w10.cell? ⟨gb267, 5, none⟩ = some (.int .i64 a0_5) := (blk_cell BK267.out 5).trans rfl; have hcz11_6 : w10.cell? ⟨gb267, 6, none⟩ = some (.bool a0_6) := (blk_cell BK267.out 6).trans rfl; have hfz11_0 := blk_frozen BK267.out 0; have hfz11_1 := blk_frozen BK267.out 1; have hfz11_2 := blk_frozen BK267.out 2; have hfz11_3 := blk_frozen BK267.out 3; have hfz11_4 := blk_frozen BK267.out 4; have hfz11_5 := blk_frozen BK267.out 5; have hfz11_6 := blk_frozen BK267.out 6) | (go_at_call 23; (with_reducible refine (metrolabref44_Check.calls k a0_0 a0_1 a0_2 a0_3 a0_4 a0_5 a0_6 t268 _ A3.out).mono ?_); rintro e w12 ⟨rfl, hb⟩; have n0_ := Aside0.mk (blk_below (g := gb267) (o := .cells #[.int .i64 a0_0, .int .i64 a0_1, .int .i64 a0_2, .int .i64 a0_3, .int .i64 a0_4, .int .i64 a0_5, .bool a0_6] 27 (0, 0)) (by (with_reducible repeat (first | refine blk_drewN ?_ _ | refine blk_drew ?_ | refine blk_alloc ?_ _)); exact BK267.out) hb); have n1_ := Aside0.mk (below_step (by repeat (first | (with_reducible first | exact HB.out | apply below_alloc | apply pw_below_drewN | apply below_drew1 | refine below_set ?_ GE267.out) | exact HB.out)) hb); clear BK267; clear HB; have BK267 := n0_; have HB := n1_; clear n0_ n1_; (try clear hb); (try clear hb2); (try clear hk); (try clear hi); have hcz13_0 : w12.cell? ⟨gb267, 0, none⟩ = some (.int .i64 a0_0) := (blk_cell BK267.out 0).trans rfl; have hcz13_1 : w12.cell? ⟨gb267, 1, none⟩ = some (.int .i64 a0_1) := (blk_cell BK267.out 1).trans rfl; have hcz13_2 : w12.cell? ⟨gb267, 2, none⟩ = some (.int .i64 a0_2) := (blk_cell BK267.out 2).trans rfl; have hcz13_3 : w12.cell? ⟨gb267, 3, none⟩ = some (.int .i64 a0_3) := (blk_cell BK267.out 3).trans rfl; have hcz13_4 : w12.cell? ⟨gb267, 4, none⟩ = some (.int .i64 a0_4) := (blk_cell BK267.out 4).trans rfl; have hcz13_5 : w12.cell? ⟨gb267, 5, none⟩ = some (.int .i64 a0_5) := (blk_cell BK267.out 5).trans rfl; have hcz13_6 : w12.cell? ⟨gb267, 6, none⟩ = some (.bool a0_6) := (blk_cell BK267.out 6).trans rfl; have hfz13_0 := blk_frozen BK267.out 0; have hfz13_1 := blk_frozen BK267.out 1; have hfz13_2 := blk_frozen BK267.out 2; have hfz13_3 := blk_frozen BK267.out 3; have hfz13_4 := blk_frozen BK267.out 4; have hfz13_5 := blk_frozen BK267.out 5; have hfz13_6 := blk_frozen BK267.out 6) | (go_at_call 25; (with_reducible refine (bonus_Bonus.calls k a0_0 a0_1 a0_2 a0_3 a0_4 a0_5 a0_6 a0_2 t270 t271 _ A5.out (by exact sig_below HS.out (by repeat (first | (with_reducible first | exact HB.out | apply below_alloc | apply pw_below_drewN | apply below_drew1 | refine below_set ?_ GE267.out) | exact HB.out)))).mono ?_); rintro e w14 ⟨rfl, hb⟩; have n0_ := Aside0.mk (blk_below (g := gb267) (o := .cells #[.int .i64 a0_0, .int .i64 a0_1, .int .i64 a0_2, .int .i64 a0_3, .int .i64 a0_4, .int .i64 a0_5, .bool a0_6] 27 (0, 0)) (by (with_reducible repeat (first | refine blk_drewN ?_ _ | refine blk_drew ?_ | refine blk_alloc ?_ _)); exact BK267.out) hb); have n1_ := Aside0.mk (below_step (by repeat (first | (with_reducible first | exact HB.out | apply below_alloc | apply pw_below_drewN | apply below_drew1 | refine below_set ?_ GE267.out) | exact HB.out)) hb); clear BK267; clear HB; have BK267 := n0_; have HB := n1_; clear n0_ n1_; (try clear hb); (try clear hb2); (try clear hk); (try clear hi); have hcz15_0 : w14.cell? ⟨gb267, 0, none⟩ = some (.int .i64 a0_0) := (blk_cell BK267.out 0).trans rfl; have hcz15_1 : w14.cell? ⟨gb267, 1, none⟩ = some (.int .i64 a0_1) := (blk_cell BK267.out 1).trans rfl; have hcz15_2 : w14.cell? ⟨gb267, 2, none⟩ = some (.int .i64 a0_2) := (blk_cell BK267.out 2).trans rfl; have hcz15_3 : w14.cell? ⟨gb267, 3, none⟩ = some (.int .i64 a0_3) := (blk_cell BK267.out 3).trans rfl; have hcz15_4 : w14.cell? ⟨gb267, 4, none⟩ = some (.int .i64 a0_4) := (blk_cell BK267.out 4).trans rfl; have hcz15_5 : w14.cell? ⟨gb267, 5, none⟩ = some (.int .i64 a0_5) := (blk_cell BK267.out 5).trans rfl; have hcz15_6 : w14.cell? ⟨gb267, 6, none⟩ = some (.bool a0_6) := (blk_cell BK267.out 6).trans rfl; have hfz15_0 := blk_frozen BK267.out 0; have hfz15_1 := blk_frozen BK267.out 1; have hfz15_2 := blk_frozen BK267.out 2; have hfz15_3 := blk_frozen BK267.out 3; have hfz15_4 := blk_frozen BK267.out 4; have hfz15_5 := blk_frozen BK267.out 5; have hfz15_6 := blk_frozen BK267.out 6) | (go_at_call 25; (with_reducible refine (bonus_Bonus.calls k a0_0 a0_1 a0_2 a0_3 a0_4 a0_5 a0_6 a0_3 t272 t273 _ A6.out (by exact sig_below HS.out (by repeat (first | (with_reducible first | exact HB.out | apply below_alloc | apply pw_below_drewN | apply below_drew1 | refine below_set ?_ GE267.out) | exact HB.out)))).mono ?_); rintro e w16 ⟨rfl, hb⟩; have n0_ := Aside0.mk (blk_below (g := gb267) (o := .cells #[.int .i64 a0_0, .int .i64 a0_1, .int .i64 a0_2, .int .i64 a0_3, .int .i64 a0_4, .int .i64 a0_5, .bool a0_6] 27 (0, 0)) (by (with_reducible repeat (first | refine blk_drewN ?_ _ | refine blk_drew ?_ | refine blk_alloc ?_ _)); exact BK267.out) hb); have n1_ := Aside0.mk (below_step (by repeat (first | (with_reducible first | exact HB.out | apply below_alloc | apply pw_below_drewN | apply below_drew1 | refine below_set ?_ GE267.out) | exact HB.out)) hb); clear BK267; clear HB; have BK267 := n0_; have HB := n1_; clear n0_ n1_; (try clear hb); (try clear hb2); (try clear hk); (try clear hi); have hcz17_0 : w16.cell? ⟨gb267, 0, none⟩ = some (.int .i64 a0_0) := (blk_cell BK267.out 0).trans rfl; have hcz17_1 : w16.cell? ⟨gb267, 1, none⟩ = some (.int .i64 a0_1) := (blk_cell BK267.out 1).trans rfl; have hcz17_2 : w16.cell? ⟨gb267, 2, none⟩ = some (.int .i64 a0_2) := (blk_cell BK267.out 2).trans rfl; have hcz17_3 : w16.cell? ⟨gb267, 3, none⟩ = some (.int .i64 a0_3) := (blk_cell BK267.out 3).trans rfl; have hcz17_4 : w16.cell? ⟨gb267, 4, none⟩ = some (.int .i64 a0_4) := (blk_cell BK267.out 4).trans rfl; have hcz17_5 : w16.cell? ⟨gb267, 5, none⟩ = some (.int .i64 a0_5) := (blk_cell BK267.out 5).trans rfl; have hcz17_6 : w16.cell? ⟨gb267, 6, none⟩ = some (.bool a0_6) := (blk_cell BK267.out 6).trans rfl; have hfz17_0 := blk_frozen BK267.out 0; have hfz17_1 := blk_frozen BK267.out 1; have hfz17_2 := blk_frozen BK267.out 2; have hfz17_3 := blk_frozen BK267.out 3; have hfz17_4 := blk_frozen BK267.out 4; have hfz17_5 := blk_frozen BK267.out 5; have hfz17_6 := blk_frozen BK267.out 6) | (go_at_call 25; (with_reducible refine (bonus_Bonus.calls k a0_0 a0_1 a0_2 a0_3 a0_4 a0_5 a0_6 (wrap64 (a0_2 + (Int.tmod (wrap64 (a1)) (wrap64 ((wrap64 (a0_3 - a0_2)) + 1))))) t274 t275 _ A8.out (by exact sig_below HS.out (by repeat (first | (with_reducible first | exact HB.out | apply below_alloc | apply pw_below_drewN | apply below_drew1 | refine below_set ?_ GE267.out) | exact HB.out)))).mono ?_); rintro e w18 ⟨rfl, hb⟩; have n0_ := Aside0.mk (blk_below (g := gb267) (o := .cells #[.int .i64 a0_0, .int .i64 a0_1, .int .i64 a0_2, .int .i64 a0_3, .int .i64 a0_4, .int .i64 a0_5, .bool a0_6] 27 (0, 0)) (by (with_reducible repeat (first | refine blk_drewN ?_ _ | refine blk_drew ?_ | refine blk_alloc ?_ _)); exact BK267.out) hb); have n1_ := Aside0.mk (below_step (by repeat (first | (with_reducible first | exact HB.out | apply below_alloc | apply pw_below_drewN | apply below_drew1 | refine below_set ?_ GE267.out) | exact HB.out)) hb); clear BK267; clear HB; have BK267 := n0_; have HB := n1_; clear n0_ n1_; (try clear hb); (try clear hb2); (try clear hk); (try clear hi))))
      (try simp only [Act.put, List.setIfInBounds_toArray, List.set_cons_zero, List.set_cons_succ])
      go_cut [66] (fun v66 wc => ∃ (kq : Nat) (x66_8 : Bool), v66 = .bool x66_8 ∧ Aside0 (metrolablaw44_BonusGrows.j0 kq (wrap64 (a0_3 - a0_2)) t270 t272 (wrap64 (a0_2 + (Int.tmod (wrap64 (a1)) (wrap64 ((wrap64 (a0_3 - a0_2)) + 1))))) t274 x66_8 a0_0 a0_1 a0_2 a0_3 a0_4 a0_5 a0_6 = some r) ∧ Aside0 (kq ≤ k) ∧ Aside0 (wc.heap[gb267]? = some (.cells #[.int .i64 a0_0, .int .i64 a0_1, .int .i64 a0_2, .int .i64 a0_3, .int .i64 a0_4, .int .i64 a0_5, .bool a0_6] 27 (0, 0))) ∧ Aside0 (Below w.heap.size w wc))
      case first =>
        have H := HC9.out
        clear HC9
        by_cases c19 : (wrap64 ((wrap64 (t271 + t273)) + t275)) = 0
        · rw [if_pos c19] at H
          have c19b0 : ((wrap64 ((wrap64 (t271 + t273)) + t275)) == 0) = true := beq_iff_eq.mpr c19
          have c19b1 : ((wrap64 ((wrap64 (t271 + t273)) + t275)) != 0) = false := bne_eq_false_iff_eq.mpr c19
          clear c19
          (first | rw [c19b0] | (simp only [i64_w, i32_w]; rw [c19b0]) | skip)
          obtain ⟨ji20, hji20⟩ : ∃ j_ : Int, (mn t270 t272) = j_ := ⟨_, rfl⟩
          replace H : (metrolablaw44_BonusGrows.j0 k (wrap64 (a0_3 - a0_2)) t270 t272 (wrap64 (a0_2 + (Int.tmod (wrap64 (a1)) (wrap64 ((wrap64 (a0_3 - a0_2)) + 1))))) t274 ((ji20) != 0) a0_0 a0_1 a0_2 a0_3 a0_4 a0_5 a0_6) = some r := by first | (rw [hji20] at H; exact H) | (simp only [hji20] at H ⊢; exact H)
          have hji20_ : (if t272 < t270 then t272 else t270) = ji20 := hji20
          have H' := Aside0.mk H
          clear H
          go_wp2
          repeat (go_quiet (fail); try go_wp2)
          go_meet
          case rel => exact ⟨_, (((ji20) != 0)), (by first | rfl | (simp; done) | (simp only [← hji20] <;> (first | rfl | simp)) | (simp [*]; done)), H', ⟨by first | omega | exact Nat.le_refl _⟩, ⟨by (with_reducible repeat (first | refine blk_drewN ?_ _ | refine blk_drew ?_ | refine blk_alloc ?_ _)); exact BK267.out⟩, ⟨by repeat (first | (with_reducible first | exact HB.out | apply below_alloc | apply pw_below_drewN | apply below_drew1 | refine below_set ?_ GE267.out) | exact HB.out)⟩⟩
        · rw [if_neg c19] at H
          have c19b0 : ((wrap64 ((wrap64 (t271 + t273)) + t275)) == 0) = false := beq_eq_false_iff_ne.mpr c19
          have c19b1 : ((wrap64 ((wrap64 (t271 + t273)) + t275)) != 0) = true := bne_iff_ne.mpr c19
          (first | rw [c19b0] | (simp only [i64_w, i32_w]; rw [c19b0]) | skip)
          have H' := Aside0.mk H
          clear H
          go_wp2
          repeat (go_quiet (fail); try go_wp2)
          go_meet
          case rel => exact ⟨_, (true), (by first | rfl | (simp; done) | (simp [*]; done)), H', ⟨by first | omega | exact Nat.le_refl _⟩, ⟨by (with_reducible repeat (first | refine blk_drewN ?_ _ | refine blk_drew ?_ | refine blk_alloc ?_ _)); exact BK267.out⟩, ⟨by repeat (first | (with_reducible first | exact HB.out | apply below_alloc | apply pw_below_drewN | apply below_drew1 | refine below_set ?_ GE267.out) | exact HB.out)⟩⟩
      case rest =>
        clear HC9
        try clear c1
        try clear p2
        try clear c4
        try clear c4b0
        try clear c4b1
        try clear p6
        try clear c7
        try clear c7b0
        try clear c7b1
        try clear c9
        try clear c19
        try clear c19b0
        try clear c19b1
        try clear hcz11_0
        try clear hcz11_1
        try clear hcz11_2
        try clear hcz11_3
        try clear hcz11_4
        try clear hcz11_5
        try clear hcz11_6
        try clear hcz13_0
        try clear hcz13_1
        try clear hcz13_2
        try clear hcz13_3
        try clear hcz13_4
        try clear hcz13_5
        try clear hcz13_6
        try clear hcz15_0
        try clear hcz15_1
        try clear hcz15_2
        try clear hcz15_3
        try clear hcz15_4
        try clear hcz15_5
        try clear hcz15_6
        try clear hcz17_0
        try clear hcz17_1
        try clear hcz17_2
        try clear hcz17_3
        try clear hcz17_4
        try clear hcz17_5
        try clear hcz17_6
        try clear hfz11_0
        try clear hfz11_1
        try clear hfz11_2
        try clear hfz11_3
        try clear hfz11_4
        try clear hfz11_5
        try clear hfz11_6
        try clear hfz13_0
        try clear hfz13_1
        try clear hfz13_2
        try clear hfz13_3
        try clear hfz13_4
        try clear hfz13_5
        try clear hfz13_6
        try clear hfz15_0
        try clear hfz15_1
        try clear hfz15_2
        try clear hfz15_3
        try clear hfz15_4
        try clear hfz15_5
        try clear hfz15_6
        try clear hfz17_0
        try clear hfz17_1
        try clear hfz17_2
        try clear hfz17_3
        try clear hfz17_4
        try clear hfz17_5
        try clear hfz17_6
        obtain ⟨kq, x66_8, rfl, HA, HJ8, BK267, HB⟩ := hcut
        cases kq with
        | zero => exact absurd HA.out (by simp [metrolablaw44_BonusGrows.j0])
        | succ kj8 =>
          have H := HA.out
          clear HA
          simp only [metrolablaw44_BonusGrows.j0] at H
          by_cases c21 : x66_8 = true
          · subst c21
            have H1 : (some false) = some r := by rw [if_pos rfl] at H; exact H
            clear H
            have H := H1
            clear H1
            obtain rfl := Option.some.inj H
            go_wp2
            repeat (go_quiet (fail); try go_wp2)
            go_ret
            exact ⟨by first | rfl | (simp [errW_none, errW_some] <;> rfl) | (simp [*, errW_none, errW_some] <;> rfl), by repeat (first | (with_reducible first | exact HB.out | apply below_alloc | apply pw_below_drewN | apply below_drew1 | refine below_set ?_ GE267.out) | exact HB.out)⟩
          · replace c21 := Bool.eq_false_iff.mpr c21
            subst c21
            have H1 : (if a0_5 = 0 then (if t274 = 0 then (if t272 = 0 then (if t270 = 0 then ((metrolablaw44_awake.f).bind fun t276 => (some t276)) else (some false)) else (some false)) else (some false)) else (if (wrap64 (t270 + t272)) = (wrap64 (a0_3 - a0_2)) then (if t274 = (mx (wrap64 (t270 - (wrap64 ((wrap64 (a0_2 + (Int.tmod (wrap64 (a1)) (wrap64 ((wrap64 (a0_3 - a0_2)) + 1))))) - a0_2)))) (wrap64 ((wrap64 ((wrap64 (a0_2 + (Int.tmod (wrap64 (a1)) (wrap64 ((wrap64 (a0_3 - a0_2)) + 1))))) - a0_2)) - t270))) then ((metrolablaw44_awake.f).bind fun t277 => (some t277)) else (some false)) else (some false))) = some r := by rw [if_neg (show ¬ (false = true) by decide)] at H; exact H
            clear H
            have H := H1
            clear H1
            by_cases c22 : a0_5 = 0
            · rw [if_pos c22] at H
              have c22b0 : (a0_5 == 0) = true := beq_iff_eq.mpr c22
              have c22b1 : (a0_5 != 0) = false := bne_eq_false_iff_eq.mpr c22
              clear c22
              by_cases c23 : t274 = 0
              · rw [if_pos c23] at H
                have c23b0 : (t274 == 0) = true := beq_iff_eq.mpr c23
                have c23b1 : (t274 != 0) = false := bne_eq_false_iff_eq.mpr c23
                clear c23
                by_cases c24 : t272 = 0
                · rw [if_pos c24] at H
                  have c24b0 : (t272 == 0) = true := beq_iff_eq.mpr c24
                  have c24b1 : (t272 != 0) = false := bne_eq_false_iff_eq.mpr c24
                  clear c24
                  by_cases c25 : t270 = 0
                  · rw [if_pos c25] at H
                    have c25b0 : (t270 == 0) = true := beq_iff_eq.mpr c25
                    have c25b1 : (t270 != 0) = false := bne_eq_false_iff_eq.mpr c25
                    clear c25
                    replace H := Option.bind_eq_some_iff.mp H
                    obtain ⟨t276, A260, H⟩ := H
                    replace H : (some t276) = some r := H
                    have A26 := Aside0.mk A260
                    clear A260
                    obtain rfl := Option.some.inj H
                    have hcz27_0 : wc.cell? ⟨gb267, 0, none⟩ = some (.int .i64 a0_0) := (blk_cell BK267.out 0).trans rfl
                    have hcz27_1 : wc.cell? ⟨gb267, 1, none⟩ = some (.int .i64 a0_1) := (blk_cell BK267.out 1).trans rfl
                    have hcz27_2 : wc.cell? ⟨gb267, 2, none⟩ = some (.int .i64 a0_2) := (blk_cell BK267.out 2).trans rfl
                    have hcz27_3 : wc.cell? ⟨gb267, 3, none⟩ = some (.int .i64 a0_3) := (blk_cell BK267.out 3).trans rfl
                    have hcz27_4 : wc.cell? ⟨gb267, 4, none⟩ = some (.int .i64 a0_4) := (blk_cell BK267.out 4).trans rfl
                    have hcz27_5 : wc.cell? ⟨gb267, 5, none⟩ = some (.int .i64 a0_5) := (blk_cell BK267.out 5).trans rfl
                    have hcz27_6 : wc.cell? ⟨gb267, 6, none⟩ = some (.bool a0_6) := (blk_cell BK267.out 6).trans rfl
                    have hfz27_0 := blk_frozen BK267.out 0
                    have hfz27_1 := blk_frozen BK267.out 1
                    have hfz27_2 := blk_frozen BK267.out 2
                    have hfz27_3 := blk_frozen BK267.out 3
                    have hfz27_4 := blk_frozen BK267.out 4
                    have hfz27_5 := blk_frozen BK267.out 5
                    have hfz27_6 := blk_frozen BK267.out 6
                    go_wp2_with (first | (go_at_call 24; (with_reducible refine (metrolablaw44_awake.calls  t276 _ A26.out (by exact sig_below HS.out (by repeat (first | (with_reducible first | exact HB.out | apply below_alloc | apply pw_below_drewN | apply below_drew1 | refine below_set ?_ GE267.out) | exact HB.out)))).mono ?_); rintro e w28 ⟨rfl, hb⟩; have n0_ := Aside0.mk (blk_below (g := gb267) (o := .cells #[.int .i64 a0_0, .int .i64 a0_1, .int .i64 a0_2, .int .i64 a0_3, .int .i64 a0_4, .int .i64 a0_5, .bool a0_6] 27 (0, 0)) (by (with_reducible repeat (first | refine blk_drewN ?_ _ | refine blk_drew ?_ | refine blk_alloc ?_ _)); exact BK267.out) hb); have n1_ := Aside0.mk (below_step (by repeat (first | (with_reducible first | exact HB.out | apply below_alloc | apply pw_below_drewN | apply below_drew1 | refine below_set ?_ GE267.out) | exact HB.out)) hb); clear BK267; clear HB; have BK267 := n0_; have HB := n1_; clear n0_ n1_; (try clear hb); (try clear hb2); (try clear hk); (try clear hi)))
                    repeat (go_quiet (first | (go_at_call 24; (with_reducible refine (metrolablaw44_awake.calls  t276 _ A26.out (by exact sig_below HS.out (by repeat (first | (with_reducible first | exact HB.out | apply below_alloc | apply pw_below_drewN | apply below_drew1 | refine below_set ?_ GE267.out) | exact HB.out)))).mono ?_); rintro e w28 ⟨rfl, hb⟩; have n0_ := Aside0.mk (blk_below (g := gb267) (o := .cells #[.int .i64 a0_0, .int .i64 a0_1, .int .i64 a0_2, .int .i64 a0_3, .int .i64 a0_4, .int .i64 a0_5, .bool a0_6] 27 (0, 0)) (by (with_reducible repeat (first | refine blk_drewN ?_ _ | refine blk_drew ?_ | refine blk_alloc ?_ _)); exact BK267.out) hb); have n1_ := Aside0.mk (below_step (by repeat (first | (with_reducible first | exact HB.out | apply below_alloc | apply pw_below_drewN | apply below_drew1 | refine below_set ?_ GE267.out) | exact HB.out)) hb); clear BK267; clear HB; have BK267 := n0_; have HB := n1_; clear n0_ n1_; (try clear hb); (try clear hb2); (try clear hk); (try clear hi))); try go_wp2_with (first | (go_at_call 24; (with_reducible refine (metrolablaw44_awake.calls  t276 _ A26.out (by exact sig_below HS.out (by repeat (first | (with_reducible first | exact HB.out | apply below_alloc | apply pw_below_drewN | apply below_drew1 | refine below_set ?_ GE267.out) | exact HB.out)))).mono ?_); rintro e w28 ⟨rfl, hb⟩; have n0_ := Aside0.mk (blk_below (g := gb267) (o := .cells #[.int .i64 a0_0, .int .i64 a0_1, .int .i64 a0_2, .int .i64 a0_3, .int .i64 a0_4, .int .i64 a0_5, .bool a0_6] 27 (0, 0)) (by (with_reducible repeat (first | refine blk_drewN ?_ _ | refine blk_drew ?_ | refine blk_alloc ?_ _)); exact BK267.out) hb); have n1_ := Aside0.mk (below_step (by repeat (first | (with_reducible first | exact HB.out | apply below_alloc | apply pw_below_drewN | apply below_drew1 | refine below_set ?_ GE267.out) | exact HB.out)) hb); clear BK267; clear HB; have BK267 := n0_; have HB := n1_; clear n0_ n1_; (try clear hb); (try clear hb2); (try clear hk); (try clear hi))))
                    go_ret
                    exact ⟨by first | rfl | (simp [errW_none, errW_some] <;> rfl) | (simp [*, errW_none, errW_some] <;> rfl), by repeat (first | (with_reducible first | exact HB.out | apply below_alloc | apply pw_below_drewN | apply below_drew1 | refine below_set ?_ GE267.out) | exact HB.out)⟩
                  · rw [if_neg c25] at H
                    have c25b0 : (t270 == 0) = false := beq_eq_false_iff_ne.mpr c25
                    have c25b1 : (t270 != 0) = true := bne_iff_ne.mpr c25
                    obtain rfl := Option.some.inj H
                    have hcz29_0 : wc.cell? ⟨gb267, 0, none⟩ = some (.int .i64 a0_0) := (blk_cell BK267.out 0).trans rfl
                    have hcz29_1 : wc.cell? ⟨gb267, 1, none⟩ = some (.int .i64 a0_1) := (blk_cell BK267.out 1).trans rfl
                    have hcz29_2 : wc.cell? ⟨gb267, 2, none⟩ = some (.int .i64 a0_2) := (blk_cell BK267.out 2).trans rfl
                    have hcz29_3 : wc.cell? ⟨gb267, 3, none⟩ = some (.int .i64 a0_3) := (blk_cell BK267.out 3).trans rfl
                    have hcz29_4 : wc.cell? ⟨gb267, 4, none⟩ = some (.int .i64 a0_4) := (blk_cell BK267.out 4).trans rfl
                    have hcz29_5 : wc.cell? ⟨gb267, 5, none⟩ = some (.int .i64 a0_5) := (blk_cell BK267.out 5).trans rfl
                    have hcz29_6 : wc.cell? ⟨gb267, 6, none⟩ = some (.bool a0_6) := (blk_cell BK267.out 6).trans rfl
                    have hfz29_0 := blk_frozen BK267.out 0
                    have hfz29_1 := blk_frozen BK267.out 1
                    have hfz29_2 := blk_frozen BK267.out 2
                    have hfz29_3 := blk_frozen BK267.out 3
                    have hfz29_4 := blk_frozen BK267.out 4
                    have hfz29_5 := blk_frozen BK267.out 5
                    have hfz29_6 := blk_frozen BK267.out 6
                    go_wp2
                    repeat (go_quiet (fail); try go_wp2)
                    go_ret
                    exact ⟨by first | rfl | (simp [errW_none, errW_some] <;> rfl) | (simp [*, errW_none, errW_some] <;> rfl), by repeat (first | (with_reducible first | exact HB.out | apply below_alloc | apply pw_below_drewN | apply below_drew1 | refine below_set ?_ GE267.out) | exact HB.out)⟩
                · rw [if_neg c24] at H
                  have c24b0 : (t272 == 0) = false := beq_eq_false_iff_ne.mpr c24
                  have c24b1 : (t272 != 0) = true := bne_iff_ne.mpr c24
                  obtain rfl := Option.some.inj H
                  have hcz30_0 : wc.cell? ⟨gb267, 0, none⟩ = some (.int .i64 a0_0) := (blk_cell BK267.out 0).trans rfl
                  have hcz30_1 : wc.cell? ⟨gb267, 1, none⟩ = some (.int .i64 a0_1) := (blk_cell BK267.out 1).trans rfl
                  have hcz30_2 : wc.cell? ⟨gb267, 2, none⟩ = some (.int .i64 a0_2) := (blk_cell BK267.out 2).trans rfl
                  have hcz30_3 : wc.cell? ⟨gb267, 3, none⟩ = some (.int .i64 a0_3) := (blk_cell BK267.out 3).trans rfl
                  have hcz30_4 : wc.cell? ⟨gb267, 4, none⟩ = some (.int .i64 a0_4) := (blk_cell BK267.out 4).trans rfl
                  have hcz30_5 : wc.cell? ⟨gb267, 5, none⟩ = some (.int .i64 a0_5) := (blk_cell BK267.out 5).trans rfl
                  have hcz30_6 : wc.cell? ⟨gb267, 6, none⟩ = some (.bool a0_6) := (blk_cell BK267.out 6).trans rfl
                  have hfz30_0 := blk_frozen BK267.out 0
                  have hfz30_1 := blk_frozen BK267.out 1
                  have hfz30_2 := blk_frozen BK267.out 2
                  have hfz30_3 := blk_frozen BK267.out 3
                  have hfz30_4 := blk_frozen BK267.out 4
                  have hfz30_5 := blk_frozen BK267.out 5
                  have hfz30_6 := blk_frozen BK267.out 6
                  go_wp2
                  repeat (go_quiet (fail); try go_wp2)
                  go_ret
                  exact ⟨by first | rfl | (simp [errW_none, errW_some] <;> rfl) | (simp [*, errW_none, errW_some] <;> rfl), by repeat (first | (with_reducible first | exact HB.out | apply below_alloc | apply pw_below_drewN | apply below_drew1 | refine below_set ?_ GE267.out) | exact HB.out)⟩
              · rw [if_neg c23] at H
                have c23b0 : (t274 == 0) = false := beq_eq_false_iff_ne.mpr c23
                have c23b1 : (t274 != 0) = true := bne_iff_ne.mpr c23
                obtain rfl := Option.some.inj H
                have hcz31_0 : wc.cell? ⟨gb267, 0, none⟩ = some (.int .i64 a0_0) := (blk_cell BK267.out 0).trans rfl
                have hcz31_1 : wc.cell? ⟨gb267, 1, none⟩ = some (.int .i64 a0_1) := (blk_cell BK267.out 1).trans rfl
                have hcz31_2 : wc.cell? ⟨gb267, 2, none⟩ = some (.int .i64 a0_2) := (blk_cell BK267.out 2).trans rfl
                have hcz31_3 : wc.cell? ⟨gb267, 3, none⟩ = some (.int .i64 a0_3) := (blk_cell BK267.out 3).trans rfl
                have hcz31_4 : wc.cell? ⟨gb267, 4, none⟩ = some (.int .i64 a0_4) := (blk_cell BK267.out 4).trans rfl
                have hcz31_5 : wc.cell? ⟨gb267, 5, none⟩ = some (.int .i64 a0_5) := (blk_cell BK267.out 5).trans rfl
                have hcz31_6 : wc.cell? ⟨gb267, 6, none⟩ = some (.bool a0_6) := (blk_cell BK267.out 6).trans rfl
                have hfz31_0 := blk_frozen BK267.out 0
                have hfz31_1 := blk_frozen BK267.out 1
                have hfz31_2 := blk_frozen BK267.out 2
                have hfz31_3 := blk_frozen BK267.out 3
                have hfz31_4 := blk_frozen BK267.out 4
                have hfz31_5 := blk_frozen BK267.out 5
                have hfz31_6 := blk_frozen BK267.out 6
                go_wp2
                repeat (go_quiet (fail); try go_wp2)
                go_ret
                exact ⟨by first | rfl | (simp [errW_none, errW_some] <;> rfl) | (simp [*, errW_none, errW_some] <;> rfl), by repeat (first | (with_reducible first | exact HB.out | apply below_alloc | apply pw_below_drewN | apply below_drew1 | refine below_set ?_ GE267.out) | exact HB.out)⟩
            · rw [if_neg c22] at H
              have c22b0 : (a0_5 == 0) = false := beq_eq_false_iff_ne.mpr c22
              have c22b1 : (a0_5 != 0) = true := bne_iff_ne.mpr c22
              by_cases c32 : (wrap64 (t270 + t272)) = (wrap64 (a0_3 - a0_2))
              · rw [if_pos c32] at H
                have c32b0 : ((wrap64 (t270 + t272)) == (wrap64 (a0_3 - a0_2))) = true := beq_iff_eq.mpr c32
                have c32b1 : ((wrap64 (t270 + t272)) != (wrap64 (a0_3 - a0_2))) = false := bne_eq_false_iff_eq.mpr c32
                clear c32
                obtain ⟨ji33, hji33⟩ : ∃ j_ : Int, (mx (wrap64 (t270 - (wrap64 ((wrap64 (a0_2 + (Int.tmod (wrap64 (a1)) (wrap64 ((wrap64 (a0_3 - a0_2)) + 1))))) - a0_2)))) (wrap64 ((wrap64 ((wrap64 (a0_2 + (Int.tmod (wrap64 (a1)) (wrap64 ((wrap64 (a0_3 - a0_2)) + 1))))) - a0_2)) - t270))) = j_ := ⟨_, rfl⟩
                replace H : (if t274 = (ji33) then ((metrolablaw44_awake.f).bind fun t277 => (some t277)) else (some false)) = some r := by first | (rw [hji33] at H; exact H) | (simp only [hji33] at H ⊢; exact H)
                have hji33_ : (if (wrap64 (t270 - (wrap64 ((wrap64 (a0_2 + (Int.tmod (wrap64 (a1)) (wrap64 ((wrap64 (a0_3 - a0_2)) + 1))))) - a0_2)))) < (wrap64 ((wrap64 ((wrap64 (a0_2 + (Int.tmod (wrap64 (a1)) (wrap64 ((wrap64 (a0_3 - a0_2)) + 1))))) - a0_2)) - t270)) then (wrap64 ((wrap64 ((wrap64 (a0_2 + (Int.tmod (wrap64 (a1)) (wrap64 ((wrap64 (a0_3 - a0_2)) + 1))))) - a0_2)) - t270)) else (wrap64 (t270 - (wrap64 ((wrap64 (a0_2 + (Int.tmod (wrap64 (a1)) (wrap64 ((wrap64 (a0_3 - a0_2)) + 1))))) - a0_2))))) = ji33 := hji33
                by_cases c34 : t274 = (ji33)
                · rw [if_pos c34] at H
                  have c34b0 : (t274 == (ji33)) = true := beq_iff_eq.mpr c34
                  have c34b1 : (t274 != (ji33)) = false := bne_eq_false_iff_eq.mpr c34
                  clear c34
                  replace H := Option.bind_eq_some_iff.mp H
                  obtain ⟨t277, A350, H⟩ := H
                  replace H : (some t277) = some r := H
                  have A35 := Aside0.mk A350
                  clear A350
                  obtain rfl := Option.some.inj H
                  have hcz36_0 : wc.cell? ⟨gb267, 0, none⟩ = some (.int .i64 a0_0) := (blk_cell BK267.out 0).trans rfl
                  have hcz36_1 : wc.cell? ⟨gb267, 1, none⟩ = some (.int .i64 a0_1) := (blk_cell BK267.out 1).trans rfl
                  have hcz36_2 : wc.cell? ⟨gb267, 2, none⟩ = some (.int .i64 a0_2) := (blk_cell BK267.out 2).trans rfl
                  have hcz36_3 : wc.cell? ⟨gb267, 3, none⟩ = some (.int .i64 a0_3) := (blk_cell BK267.out 3).trans rfl
                  have hcz36_4 : wc.cell? ⟨gb267, 4, none⟩ = some (.int .i64 a0_4) := (blk_cell BK267.out 4).trans rfl
                  have hcz36_5 : wc.cell? ⟨gb267, 5, none⟩ = some (.int .i64 a0_5) := (blk_cell BK267.out 5).trans rfl
                  have hcz36_6 : wc.cell? ⟨gb267, 6, none⟩ = some (.bool a0_6) := (blk_cell BK267.out 6).trans rfl
                  have hfz36_0 := blk_frozen BK267.out 0
                  have hfz36_1 := blk_frozen BK267.out 1
                  have hfz36_2 := blk_frozen BK267.out 2
                  have hfz36_3 := blk_frozen BK267.out 3
                  have hfz36_4 := blk_frozen BK267.out 4
                  have hfz36_5 := blk_frozen BK267.out 5
                  have hfz36_6 := blk_frozen BK267.out 6
                  go_wp2_with (first | (go_at_call 24; (with_reducible refine (metrolablaw44_awake.calls  t277 _ A35.out (by exact sig_below HS.out (by repeat (first | (with_reducible first | exact HB.out | apply below_alloc | apply pw_below_drewN | apply below_drew1 | refine below_set ?_ GE267.out) | exact HB.out)))).mono ?_); rintro e w37 ⟨rfl, hb⟩; have n0_ := Aside0.mk (blk_below (g := gb267) (o := .cells #[.int .i64 a0_0, .int .i64 a0_1, .int .i64 a0_2, .int .i64 a0_3, .int .i64 a0_4, .int .i64 a0_5, .bool a0_6] 27 (0, 0)) (by (with_reducible repeat (first | refine blk_drewN ?_ _ | refine blk_drew ?_ | refine blk_alloc ?_ _)); exact BK267.out) hb); have n1_ := Aside0.mk (below_step (by repeat (first | (with_reducible first | exact HB.out | apply below_alloc | apply pw_below_drewN | apply below_drew1 | refine below_set ?_ GE267.out) | exact HB.out)) hb); clear BK267; clear HB; have BK267 := n0_; have HB := n1_; clear n0_ n1_; (try clear hb); (try clear hb2); (try clear hk); (try clear hi)))
                  repeat (go_quiet (first | (go_at_call 24; (with_reducible refine (metrolablaw44_awake.calls  t277 _ A35.out (by exact sig_below HS.out (by repeat (first | (with_reducible first | exact HB.out | apply below_alloc | apply pw_below_drewN | apply below_drew1 | refine below_set ?_ GE267.out) | exact HB.out)))).mono ?_); rintro e w37 ⟨rfl, hb⟩; have n0_ := Aside0.mk (blk_below (g := gb267) (o := .cells #[.int .i64 a0_0, .int .i64 a0_1, .int .i64 a0_2, .int .i64 a0_3, .int .i64 a0_4, .int .i64 a0_5, .bool a0_6] 27 (0, 0)) (by (with_reducible repeat (first | refine blk_drewN ?_ _ | refine blk_drew ?_ | refine blk_alloc ?_ _)); exact BK267.out) hb); have n1_ := Aside0.mk (below_step (by repeat (first | (with_reducible first | exact HB.out | apply below_alloc | apply pw_below_drewN | apply below_drew1 | refine below_set ?_ GE267.out) | exact HB.out)) hb); clear BK267; clear HB; have BK267 := n0_; have HB := n1_; clear n0_ n1_; (try clear hb); (try clear hb2); (try clear hk); (try clear hi))); try go_wp2_with (first | (go_at_call 24; (with_reducible refine (metrolablaw44_awake.calls  t277 _ A35.out (by exact sig_below HS.out (by repeat (first | (with_reducible first | exact HB.out | apply below_alloc | apply pw_below_drewN | apply below_drew1 | refine below_set ?_ GE267.out) | exact HB.out)))).mono ?_); rintro e w37 ⟨rfl, hb⟩; have n0_ := Aside0.mk (blk_below (g := gb267) (o := .cells #[.int .i64 a0_0, .int .i64 a0_1, .int .i64 a0_2, .int .i64 a0_3, .int .i64 a0_4, .int .i64 a0_5, .bool a0_6] 27 (0, 0)) (by (with_reducible repeat (first | refine blk_drewN ?_ _ | refine blk_drew ?_ | refine blk_alloc ?_ _)); exact BK267.out) hb); have n1_ := Aside0.mk (below_step (by repeat (first | (with_reducible first | exact HB.out | apply below_alloc | apply pw_below_drewN | apply below_drew1 | refine below_set ?_ GE267.out) | exact HB.out)) hb); clear BK267; clear HB; have BK267 := n0_; have HB := n1_; clear n0_ n1_; (try clear hb); (try clear hb2); (try clear hk); (try clear hi))))
                  go_ret
                  exact ⟨by first | rfl | (simp [errW_none, errW_some] <;> rfl) | (simp only [← hji33]; first | rfl | (simp [errW_none, errW_some] <;> rfl)) | (simp [*, errW_none, errW_some] <;> rfl), by repeat (first | (with_reducible first | exact HB.out | apply below_alloc | apply pw_below_drewN | apply below_drew1 | refine below_set ?_ GE267.out) | exact HB.out)⟩
                · rw [if_neg c34] at H
                  have c34b0 : (t274 == (ji33)) = false := beq_eq_false_iff_ne.mpr c34
                  have c34b1 : (t274 != (ji33)) = true := bne_iff_ne.mpr c34
                  obtain rfl := Option.some.inj H
                  have hcz38_0 : wc.cell? ⟨gb267, 0, none⟩ = some (.int .i64 a0_0) := (blk_cell BK267.out 0).trans rfl
                  have hcz38_1 : wc.cell? ⟨gb267, 1, none⟩ = some (.int .i64 a0_1) := (blk_cell BK267.out 1).trans rfl
                  have hcz38_2 : wc.cell? ⟨gb267, 2, none⟩ = some (.int .i64 a0_2) := (blk_cell BK267.out 2).trans rfl
                  have hcz38_3 : wc.cell? ⟨gb267, 3, none⟩ = some (.int .i64 a0_3) := (blk_cell BK267.out 3).trans rfl
                  have hcz38_4 : wc.cell? ⟨gb267, 4, none⟩ = some (.int .i64 a0_4) := (blk_cell BK267.out 4).trans rfl
                  have hcz38_5 : wc.cell? ⟨gb267, 5, none⟩ = some (.int .i64 a0_5) := (blk_cell BK267.out 5).trans rfl
                  have hcz38_6 : wc.cell? ⟨gb267, 6, none⟩ = some (.bool a0_6) := (blk_cell BK267.out 6).trans rfl
                  have hfz38_0 := blk_frozen BK267.out 0
                  have hfz38_1 := blk_frozen BK267.out 1
                  have hfz38_2 := blk_frozen BK267.out 2
                  have hfz38_3 := blk_frozen BK267.out 3
                  have hfz38_4 := blk_frozen BK267.out 4
                  have hfz38_5 := blk_frozen BK267.out 5
                  have hfz38_6 := blk_frozen BK267.out 6
                  go_wp2
                  repeat (go_quiet (fail); try go_wp2)
                  go_ret
                  exact ⟨by first | rfl | (simp [errW_none, errW_some] <;> rfl) | (simp only [← hji33]; first | rfl | (simp [errW_none, errW_some] <;> rfl)) | (simp [*, errW_none, errW_some] <;> rfl), by repeat (first | (with_reducible first | exact HB.out | apply below_alloc | apply pw_below_drewN | apply below_drew1 | refine below_set ?_ GE267.out) | exact HB.out)⟩
              · rw [if_neg c32] at H
                have c32b0 : ((wrap64 (t270 + t272)) == (wrap64 (a0_3 - a0_2))) = false := beq_eq_false_iff_ne.mpr c32
                have c32b1 : ((wrap64 (t270 + t272)) != (wrap64 (a0_3 - a0_2))) = true := bne_iff_ne.mpr c32
                obtain rfl := Option.some.inj H
                have hcz39_0 : wc.cell? ⟨gb267, 0, none⟩ = some (.int .i64 a0_0) := (blk_cell BK267.out 0).trans rfl
                have hcz39_1 : wc.cell? ⟨gb267, 1, none⟩ = some (.int .i64 a0_1) := (blk_cell BK267.out 1).trans rfl
                have hcz39_2 : wc.cell? ⟨gb267, 2, none⟩ = some (.int .i64 a0_2) := (blk_cell BK267.out 2).trans rfl
                have hcz39_3 : wc.cell? ⟨gb267, 3, none⟩ = some (.int .i64 a0_3) := (blk_cell BK267.out 3).trans rfl
                have hcz39_4 : wc.cell? ⟨gb267, 4, none⟩ = some (.int .i64 a0_4) := (blk_cell BK267.out 4).trans rfl
                have hcz39_5 : wc.cell? ⟨gb267, 5, none⟩ = some (.int .i64 a0_5) := (blk_cell BK267.out 5).trans rfl
                have hcz39_6 : wc.cell? ⟨gb267, 6, none⟩ = some (.bool a0_6) := (blk_cell BK267.out 6).trans rfl
                have hfz39_0 := blk_frozen BK267.out 0
                have hfz39_1 := blk_frozen BK267.out 1
                have hfz39_2 := blk_frozen BK267.out 2
                have hfz39_3 := blk_frozen BK267.out 3
                have hfz39_4 := blk_frozen BK267.out 4
                have hfz39_5 := blk_frozen BK267.out 5
                have hfz39_6 := blk_frozen BK267.out 6
                go_wp2
                repeat (go_quiet (fail); try go_wp2)
                go_ret
                exact ⟨by first | rfl | (simp [errW_none, errW_some] <;> rfl) | (simp [*, errW_none, errW_some] <;> rfl), by repeat (first | (with_reducible first | exact HB.out | apply below_alloc | apply pw_below_drewN | apply below_drew1 | refine below_set ?_ GE267.out) | exact HB.out)⟩
  · rw [if_neg c4] at H
    have c4b0 : (t268 == 0) = false := beq_eq_false_iff_ne.mpr c4
    have c4b1 : (t268 != 0) = true := bne_iff_ne.mpr c4
    replace H := Option.bind_eq_some_iff.mp H
    obtain ⟨t269, A400, H⟩ := H
    replace H : (some t269) = some r := H
    have A40 := Aside0.mk A400
    clear A400
    obtain rfl := Option.some.inj H
    go_enter Tryd.func9, Tryd.ntmps9
    go_wp2_with (first | ((with_reducible refine gate_dst (N := 2) rfl ?_); (try (refine gate_guard (by rfl) ?_; dsimp only)); refine box_event ?hg (N := 2) ?hd (cs := #[.int .i64 a0_0, .int .i64 a0_1, .int .i64 a0_2, .int .i64 a0_3, .int .i64 a0_4, .int .i64 a0_5, .bool a0_6]) (t := 27) ?hr ?_; (case hd => rfl); (case hg => rfl); (case hr => first | (go_simp; done) | (go_simp; rfl)); intro gb267 hg w41 hbox hb; have n0_ := Aside0.mk (below_step (by repeat (first | (with_reducible first | exact HB.out | apply below_alloc | apply pw_below_drewN | apply below_drew1) | exact HB.out)) hb); have n1_ := Aside0.mk (hbox); have n2_ := Aside0.mk ((by rw [hg]; exact (below_size (by repeat (first | (with_reducible first | exact HB.out | apply below_alloc | apply pw_below_drewN | apply below_drew1) | exact HB.out))) : w.heap.size ≤ gb267)); have n3_ := Aside0.mk ((by rw [hg]; exact (below_size (by repeat (first | (with_reducible first | exact HB.out | apply below_alloc | apply pw_below_drewN | apply below_drew1) | exact HB.out))) : w.heap.size ≤ gb267)); clear HB; have HB := n0_; have BK267 := n1_; have GW267 := n2_; have GE267 := n3_; clear n0_ n1_ n2_ n3_; clear hb hbox hg; have hcz42_0 : w41.cell? ⟨gb267, 0, none⟩ = some (.int .i64 a0_0) := (blk_cell BK267.out 0).trans rfl; have hcz42_1 : w41.cell? ⟨gb267, 1, none⟩ = some (.int .i64 a0_1) := (blk_cell BK267.out 1).trans rfl; have hcz42_2 : w41.cell? ⟨gb267, 2, none⟩ = some (.int .i64 a0_2) := (blk_cell BK267.out 2).trans rfl; have hcz42_3 : w41.cell? ⟨gb267, 3, none⟩ = some (.int .i64 a0_3) := (blk_cell BK267.out 3).trans rfl; have hcz42_4 : w41.cell? ⟨gb267, 4, none⟩ = some (.int .i64 a0_4) := (blk_cell BK267.out 4).trans rfl; have hcz42_5 : w41.cell? ⟨gb267, 5, none⟩ = some (.int .i64 a0_5) := (blk_cell BK267.out 5).trans rfl; have hcz42_6 : w41.cell? ⟨gb267, 6, none⟩ = some (.bool a0_6) := (blk_cell BK267.out 6).trans rfl; have hfz42_0 := blk_frozen BK267.out 0; have hfz42_1 := blk_frozen BK267.out 1; have hfz42_2 := blk_frozen BK267.out 2; have hfz42_3 := blk_frozen BK267.out 3; have hfz42_4 := blk_frozen BK267.out 4; have hfz42_5 := blk_frozen BK267.out 5; have hfz42_6 := blk_frozen BK267.out 6) | (go_at_call 23; (with_reducible refine (metrolabref44_Check.calls k a0_0 a0_1 a0_2 a0_3 a0_4 a0_5 a0_6 t268 _ A3.out).mono ?_); rintro e w43 ⟨rfl, hb⟩; have n0_ := Aside0.mk (blk_below (g := gb267) (o := .cells #[.int .i64 a0_0, .int .i64 a0_1, .int .i64 a0_2, .int .i64 a0_3, .int .i64 a0_4, .int .i64 a0_5, .bool a0_6] 27 (0, 0)) (by (with_reducible repeat (first | refine blk_drewN ?_ _ | refine blk_drew ?_ | refine blk_alloc ?_ _)); exact BK267.out) hb); have n1_ := Aside0.mk (below_step (by repeat (first | (with_reducible first | exact HB.out | apply below_alloc | apply pw_below_drewN | apply below_drew1 | refine below_set ?_ GE267.out) | exact HB.out)) hb); clear BK267; clear HB; have BK267 := n0_; have HB := n1_; clear n0_ n1_; (try clear hb); (try clear hb2); (try clear hk); (try clear hi)) | (go_at_call 24; (with_reducible refine (metrolablaw44_awake.calls  t269 _ A40.out (by exact sig_below HS.out (by repeat (first | (with_reducible first | exact HB.out | apply below_alloc | apply pw_below_drewN | apply below_drew1 | refine below_set ?_ GE267.out) | exact HB.out)))).mono ?_); rintro e w44 ⟨rfl, hb⟩; have n0_ := Aside0.mk (blk_below (g := gb267) (o := .cells #[.int .i64 a0_0, .int .i64 a0_1, .int .i64 a0_2, .int .i64 a0_3, .int .i64 a0_4, .int .i64 a0_5, .bool a0_6] 27 (0, 0)) (by (with_reducible repeat (first | refine blk_drewN ?_ _ | refine blk_drew ?_ | refine blk_alloc ?_ _)); exact BK267.out) hb); have n1_ := Aside0.mk (below_step (by repeat (first | (with_reducible first | exact HB.out | apply below_alloc | apply pw_below_drewN | apply below_drew1 | refine below_set ?_ GE267.out) | exact HB.out)) hb); clear BK267; clear HB; have BK267 := n0_; have HB := n1_; clear n0_ n1_; (try clear hb); (try clear hb2); (try clear hk); (try clear hi)))
    repeat (go_quiet (first | ((with_reducible refine gate_dst (N := 2) rfl ?_); (try (refine gate_guard (by rfl) ?_; dsimp only)); refine box_event ?hg (N := 2) ?hd (cs := #[.int .i64 a0_0, .int .i64 a0_1, .int .i64 a0_2, .int .i64 a0_3, .int .i64 a0_4, .int .i64 a0_5, .bool a0_6]) (t := 27) ?hr ?_; (case hd => rfl); (case hg => rfl); (case hr => first | (go_simp; done) | (go_simp; rfl)); intro gb267 hg w41 hbox hb; have n0_ := Aside0.mk (below_step (by repeat (first | (with_reducible first | exact HB.out | apply below_alloc | apply pw_below_drewN | apply below_drew1) | exact HB.out)) hb); have n1_ := Aside0.mk (hbox); have n2_ := Aside0.mk ((by rw [hg]; exact (below_size (by repeat (first | (with_reducible first | exact HB.out | apply below_alloc | apply pw_below_drewN | apply below_drew1) | exact HB.out))) : w.heap.size ≤ gb267)); have n3_ := Aside0.mk ((by rw [hg]; exact (below_size (by repeat (first | (with_reducible first | exact HB.out | apply below_alloc | apply pw_below_drewN | apply below_drew1) | exact HB.out))) : w.heap.size ≤ gb267)); clear HB; have HB := n0_; have BK267 := n1_; have GW267 := n2_; have GE267 := n3_; clear n0_ n1_ n2_ n3_; clear hb hbox hg; have hcz42_0 : w41.cell? ⟨gb267, 0, none⟩ = some (.int .i64 a0_0) := (blk_cell BK267.out 0).trans rfl; have hcz42_1 : w41.cell? ⟨gb267, 1, none⟩ = some (.int .i64 a0_1) := (blk_cell BK267.out 1).trans rfl; have hcz42_2 : w41.cell? ⟨gb267, 2, none⟩ = some (.int .i64 a0_2) := (blk_cell BK267.out 2).trans rfl; have hcz42_3 : w41.cell? ⟨gb267, 3, none⟩ = some (.int .i64 a0_3) := (blk_cell BK267.out 3).trans rfl; have hcz42_4 : w41.cell? ⟨gb267, 4, none⟩ = some (.int .i64 a0_4) := (blk_cell BK267.out 4).trans rfl; have hcz42_5 : w41.cell? ⟨gb267, 5, none⟩ = some (.int .i64 a0_5) := (blk_cell BK267.out 5).trans rfl; have hcz42_6 : w41.cell? ⟨gb267, 6, none⟩ = some (.bool a0_6) := (blk_cell BK267.out 6).trans rfl; have hfz42_0 := blk_frozen BK267.out 0; have hfz42_1 := blk_frozen BK267.out 1; have hfz42_2 := blk_frozen BK267.out 2; have hfz42_3 := blk_frozen BK267.out 3; have hfz42_4 := blk_frozen BK267.out 4; have hfz42_5 := blk_frozen BK267.out 5; have hfz42_6 := blk_frozen BK267.out 6) | (go_at_call 23; (with_reducible refine (metrolabref44_Check.calls k a0_0 a0_1 a0_2 a0_3 a0_4 a0_5 a0_6 t268 _ A3.out).mono ?_); rintro e w43 ⟨rfl, hb⟩; have n0_ := Aside0.mk (blk_below (g := gb267) (o := .cells #[.int .i64 a0_0, .int .i64 a0_1, .int .i64 a0_2, .int .i64 a0_3, .int .i64 a0_4, .int .i64 a0_5, .bool a0_6] 27 (0, 0)) (by (with_reducible repeat (first | refine blk_drewN ?_ _ | refine blk_drew ?_ | refine blk_alloc ?_ _)); exact BK267.out) hb); have n1_ := Aside0.mk (below_step (by repeat (first | (with_reducible first | exact HB.out | apply below_alloc | apply pw_below_drewN | apply below_drew1 | refine below_set ?_ GE267.out) | exact HB.out)) hb); clear BK267; clear HB; have BK267 := n0_; have HB := n1_; clear n0_ n1_; (try clear hb); (try clear hb2); (try clear hk); (try clear hi)) | (go_at_call 24; (with_reducible refine (metrolablaw44_awake.calls  t269 _ A40.out (by exact sig_below HS.out (by repeat (first | (with_reducible first | exact HB.out | apply below_alloc | apply pw_below_drewN | apply below_drew1 | refine below_set ?_ GE267.out) | exact HB.out)))).mono ?_); rintro e w44 ⟨rfl, hb⟩; have n0_ := Aside0.mk (blk_below (g := gb267) (o := .cells #[.int .i64 a0_0, .int .i64 a0_1, .int .i64 a0_2, .int .i64 a0_3, .int .i64 a0_4, .int .i64 a0_5, .bool a0_6] 27 (0, 0)) (by (with_reducible repeat (first | refine blk_drewN ?_ _ | refine blk_drew ?_ | refine blk_alloc ?_ _)); exact BK267.out) hb); have n1_ := Aside0.mk (below_step (by repeat (first | (with_reducible first | exact HB.out | apply below_alloc | apply pw_below_drewN | apply below_drew1 | refine below_set ?_ GE267.out) | exact HB.out)) hb); clear BK267; clear HB; have BK267 := n0_; have HB := n1_; clear n0_ n1_; (try clear hb); (try clear hb2); (try clear hk); (try clear hi))); try go_wp2_with (first | ((with_reducible refine gate_dst (N := 2) rfl ?_); (try (refine gate_guard (by rfl) ?_; dsimp only)); refine box_event ?hg (N := 2) ?hd (cs := #[.int .i64 a0_0, .int .i64 a0_1, .int .i64 a0_2, .int .i64 a0_3, .int .i64 a0_4, .int .i64 a0_5, .bool a0_6]) (t := 27) ?hr ?_; (case hd => rfl); (case hg => rfl); (case hr => first | (go_simp; done) | (go_simp; rfl)); intro gb267 hg w41 hbox hb; have n0_ := Aside0.mk (below_step (by repeat (first | (with_reducible first | exact HB.out | apply below_alloc | apply pw_below_drewN | apply below_drew1) | exact HB.out)) hb); have n1_ := Aside0.mk (hbox); have n2_ := Aside0.mk ((by rw [hg]; exact (below_size (by repeat (first | (with_reducible first | exact HB.out | apply below_alloc | apply pw_below_drewN | apply below_drew1) | exact HB.out))) : w.heap.size ≤ gb267)); have n3_ := Aside0.mk ((by rw [hg]; exact (below_size (by repeat (first | (with_reducible first | exact HB.out | apply below_alloc | apply pw_below_drewN | apply below_drew1) | exact HB.out))) : w.heap.size ≤ gb267)); clear HB; have HB := n0_; have BK267 := n1_; have GW267 := n2_; have GE267 := n3_; clear n0_ n1_ n2_ n3_; clear hb hbox hg; have hcz42_0 : w41.cell? ⟨gb267, 0, none⟩ = some (.int .i64 a0_0) := (blk_cell BK267.out 0).trans rfl; have hcz42_1 : w41.cell? ⟨gb267, 1, none⟩ = some (.int .i64 a0_1) := (blk_cell BK267.out 1).trans rfl; have hcz42_2 : w41.cell? ⟨gb267, 2, none⟩ = some (.int .i64 a0_2) := (blk_cell BK267.out 2).trans rfl; have hcz42_3 : w41.cell? ⟨gb267, 3, none⟩ = some (.int .i64 a0_3) := (blk_cell BK267.out 3).trans rfl; have hcz42_4 : w41.cell? ⟨gb267, 4, none⟩ = some (.int .i64 a0_4) := (blk_cell BK267.out 4).trans rfl; have hcz42_5 : w41.cell? ⟨gb267, 5, none⟩ = some (.int .i64 a0_5) := (blk_cell BK267.out 5).trans rfl; have hcz42_6 : w41.cell? ⟨gb267, 6, none⟩ = some (.bool a0_6) := (blk_cell BK267.out 6).trans rfl; have hfz42_0 := blk_frozen BK267.out 0; have hfz42_1 := blk_frozen BK267.out 1; have hfz42_2 := blk_frozen BK267.out 2; have hfz42_3 := blk_frozen BK267.out 3; have hfz42_4 := blk_frozen BK267.out 4; have hfz42_5 := blk_frozen BK267.out 5; have hfz42_6 := blk_frozen BK267.out 6) | (go_at_call 23; (with_reducible refine (metrolabref44_Check.calls k a0_0 a0_1 a0_2 a0_3 a0_4 a0_5 a0_6 t268 _ A3.out).mono ?_); rintro e w43 ⟨rfl, hb⟩; have n0_ := Aside0.mk (blk_below (g := gb267) (o := .cells #[.int .i64 a0_0, .int .i64 a0_1, .int .i64 a0_2, .int .i64 a0_3, .int .i64 a0_4, .int .i64 a0_5, .bool a0_6] 27 (0, 0)) (by (with_reducible repeat (first | refine blk_drewN ?_ _ | refine blk_drew ?_ | refine blk_alloc ?_ _)); exact BK267.out) hb); have n1_ := Aside0.mk (below_step (by repeat (first | (with_reducible first | exact HB.out | apply below_alloc | apply pw_below_drewN | apply below_drew1 | refine below_set ?_ GE267.out) | exact HB.out)) hb); clear BK267; clear HB; have BK267 := n0_; have HB := n1_; clear n0_ n1_; (try clear hb); (try clear hb2); (try clear hk); (try clear hi)) | (go_at_call 24; (with_reducible refine (metrolablaw44_awake.calls  t269 _ A40.out (by exact sig_below HS.out (by repeat (first | (with_reducible first | exact HB.out | apply below_alloc | apply pw_below_drewN | apply below_drew1 | refine below_set ?_ GE267.out) | exact HB.out)))).mono ?_); rintro e w44 ⟨rfl, hb⟩; have n0_ := Aside0.mk (blk_below (g := gb267) (o := .cells #[.int .i64 a0_0, .int .i64 a0_1, .int .i64 a0_2, .int .i64 a0_3, .int .i64 a0_4, .int .i64 a0_5, .bool a0_6] 27 (0, 0)) (by (with_reducible repeat (first | refine blk_drewN ?_ _ | refine blk_drew ?_ | refine blk_alloc ?_ _)); exact BK267.out) hb); have n1_ := Aside0.mk (below_step (by repeat (first | (with_reducible first | exact HB.out | apply below_alloc | apply pw_below_drewN | apply below_drew1 | refine below_set ?_ GE267.out) | exact HB.out)) hb); clear BK267; clear HB; have BK267 := n0_; have HB := n1_; clear n0_ n1_; (try clear hb); (try clear hb2); (try clear hk); (try clear hi))))
    go_ret
    exact ⟨by first | rfl | (simp [errW_none, errW_some] <;> rfl) | (simp [*, errW_none, errW_some] <;> rfl), by repeat (first | (with_reducible first | exact HB.out | apply below_alloc | apply pw_below_drewN | apply below_drew1 | refine below_set ?_ GE267.out) | exact HB.out)⟩

end Go.Proofs.YtjemaonejkepcaaDoor.B
