/- Contracts of the Go functions that a law reaches, written by a program of ours over the kit's printer; not trusted: Lean checks them. -/
import Derived.Test.YtjemaonejkepcaaDoorB0
import Derived.Test.YtjemaonejkepcaaDoorB5
import Derived.Test.YtjemaonejkepcaaDoorB6
import Derived.Test.YtjemaonejkepcaaDoorB15
import Derived.Test.YtjemaonejkepcaaDoorB16
namespace Go.Proofs.YtjemaonejkepcaaDoor.B
open Go.RowKit Go.Proofs.YtjemaonejkepcaaDoorW.PrintWords Go.Proofs.YtjemaonejkepcaaDoorW.PrintLast Go.Proofs.YtjemaonejkepcaaDoorW.PrintMore
attribute [local go_sem] max2_int min2_int max_two min_two max_three min_three max_four min_four   -- for this text's walks alone
set_option linter.unusedVariables false
set_option linter.unusedSimpArgs false

/-! ### metrolablaw44_BonusKeeps: function 11 -/
def metrolablaw44_BonusKeeps.j0 : Nat → Bool → Int → Int → Int → Int → Int → Int → Bool → Int → Int → Int → Option (Bool)
  | 0, _, _, _, _, _, _, _, _, _, _, _ => none
  | k + 1, x54, x345000, x345001, x345002, x345003, x345004, x345005, x345006, x346000, x346001, x346002 => if x54 = true then (some false) else ((bonus_KeepsBox.f k x345000 x345001 x345002 x345003 x345004 x345005 x345006 x346000 x346001 x346002).bind fun bt354 => ((metrolabref44_KeepsBox.f k x345000 x345001 x345002 x345003 x345004 x345005 x345006 x346000 x346001 x346002).bind fun bt356 => (if (bt354.1 == bt356.1) = true then (if bt354.2 = bt356.2 then ((metrolablaw44_awake.f).bind fun t358 => (some t358)) else (some false)) else (some false))))
def metrolablaw44_BonusKeeps.f (k : Nat) (a0_0 : Int) (a0_1 : Int) (a0_2 : Int) (a0_3 : Int) (a0_4 : Int) (a0_5 : Int) (a0_6 : Bool) (a1_0 : Int) (a1_1 : Int) (a1_2 : Int) : Option (Bool) := (bonus_Distance.f k a0_0 a0_1 a0_2 a0_3 a0_4 a0_5 a0_6 a1_0 a1_1 a1_2).bind fun bt346 => ((metrolabref44_Distance.f k a0_0 a0_1 a0_2 a0_3 a0_4 a0_5 a0_6 a1_0 a1_1 a1_2).bind fun bt348 => ((bonus_Keeps.f k a0_0 a0_1 a0_2 a0_3 a0_4 a0_5 a0_6 a1_0 a1_1 a1_2).bind fun bt350 => ((metrolabref44_Keeps.f k a0_0 a0_1 a0_2 a0_3 a0_4 a0_5 a0_6 a1_0 a1_1 a1_2).bind fun bt352 => (if bt346.1 = bt348.1 then (if bt346.2 = bt348.2 then (if (bt350.1 != bt352.1) = true then (metrolablaw44_BonusKeeps.j0 k true a0_0 a0_1 a0_2 a0_3 a0_4 a0_5 a0_6 a1_0 a1_1 a1_2) else (metrolablaw44_BonusKeeps.j0 k (bt350.2 != bt352.2) a0_0 a0_1 a0_2 a0_3 a0_4 a0_5 a0_6 a1_0 a1_1 a1_2)) else (metrolablaw44_BonusKeeps.j0 k true a0_0 a0_1 a0_2 a0_3 a0_4 a0_5 a0_6 a1_0 a1_1 a1_2)) else (metrolablaw44_BonusKeeps.j0 k true a0_0 a0_1 a0_2 a0_3 a0_4 a0_5 a0_6 a1_0 a1_1 a1_2)))))
theorem metrolablaw44_BonusKeeps.mono_l : ∀ k, (∀ y0 y1 y2 y3 y4 y5 y6 y7 y8 y9 y10, LeO (metrolablaw44_BonusKeeps.j0 k y0 y1 y2 y3 y4 y5 y6 y7 y8 y9 y10) (metrolablaw44_BonusKeeps.j0 (k + 1) y0 y1 y2 y3 y4 y5 y6 y7 y8 y9 y10))
  | 0 => fun _ _ _ _ _ _ _ _ _ _ _ r h => by simp [metrolablaw44_BonusKeeps.j0] at h
  | k + 1 => by
    have ih0 := metrolablaw44_BonusKeeps.mono_l k
    · intro y0 y1 y2 y3 y4 y5 y6 y7 y8 y9 y10
      unfold metrolablaw44_BonusKeeps.j0
      repeat' first
      | (with_reducible exact ih0 _ _ _ _ _ _ _ _ _ _ _)
      | (with_reducible exact bonus_Distance.mono _ _ _ _ _ _ _ _ _ _ _)
      | (with_reducible exact bonus_Keeps.mono _ _ _ _ _ _ _ _ _ _ _)
      | (with_reducible exact bonus_KeepsBox.mono _ _ _ _ _ _ _ _ _ _ _)
      | (with_reducible exact metrolabref44_Distance.mono _ _ _ _ _ _ _ _ _ _ _)
      | (with_reducible exact metrolabref44_Keeps.mono _ _ _ _ _ _ _ _ _ _ _)
      | (with_reducible exact metrolabref44_KeepsBox.mono _ _ _ _ _ _ _ _ _ _ _)
      | (with_reducible exact LeO.refl _)
      | (with_reducible exact LeO.none _)
      | (with_reducible refine LeO.ite ?_ ?_)
      | (with_reducible refine LeO.bind ?_ (fun _ => ?_))
      | exact ih0 _ _ _ _ _ _ _ _ _ _ _
      | exact bonus_Distance.mono _ _ _ _ _ _ _ _ _ _ _
      | exact bonus_Keeps.mono _ _ _ _ _ _ _ _ _ _ _
      | exact bonus_KeepsBox.mono _ _ _ _ _ _ _ _ _ _ _
      | exact metrolabref44_Distance.mono _ _ _ _ _ _ _ _ _ _ _
      | exact metrolabref44_Keeps.mono _ _ _ _ _ _ _ _ _ _ _
      | exact metrolabref44_KeepsBox.mono _ _ _ _ _ _ _ _ _ _ _
      | exact LeO.none _
      | refine LeO.ite ?_ ?_
      | refine LeO.bind ?_ (fun _ => ?_)
theorem metrolablaw44_BonusKeeps.mono : ∀ a0 a1 a2 a3 a4 a5 a6 a7 a8 a9 k, LeO (metrolablaw44_BonusKeeps.f k a0 a1 a2 a3 a4 a5 a6 a7 a8 a9) (metrolablaw44_BonusKeeps.f (k + 1) a0 a1 a2 a3 a4 a5 a6 a7 a8 a9) := by
  intro a0 a1 a2 a3 a4 a5 a6 a7 a8 a9 k
  have ih0 := metrolablaw44_BonusKeeps.mono_l k
  unfold metrolablaw44_BonusKeeps.f
  repeat' first
      | (with_reducible exact ih0 _ _ _ _ _ _ _ _ _ _ _)
      | (with_reducible exact bonus_Distance.mono _ _ _ _ _ _ _ _ _ _ _)
      | (with_reducible exact bonus_Keeps.mono _ _ _ _ _ _ _ _ _ _ _)
      | (with_reducible exact bonus_KeepsBox.mono _ _ _ _ _ _ _ _ _ _ _)
      | (with_reducible exact metrolabref44_Distance.mono _ _ _ _ _ _ _ _ _ _ _)
      | (with_reducible exact metrolabref44_Keeps.mono _ _ _ _ _ _ _ _ _ _ _)
      | (with_reducible exact metrolabref44_KeepsBox.mono _ _ _ _ _ _ _ _ _ _ _)
      | (with_reducible exact LeO.refl _)
      | (with_reducible exact LeO.none _)
      | (with_reducible refine LeO.ite ?_ ?_)
      | (with_reducible refine LeO.bind ?_ (fun _ => ?_))
      | exact ih0 _ _ _ _ _ _ _ _ _ _ _
      | exact bonus_Distance.mono _ _ _ _ _ _ _ _ _ _ _
      | exact bonus_Keeps.mono _ _ _ _ _ _ _ _ _ _ _
      | exact bonus_KeepsBox.mono _ _ _ _ _ _ _ _ _ _ _
      | exact metrolabref44_Distance.mono _ _ _ _ _ _ _ _ _ _ _
      | exact metrolabref44_Keeps.mono _ _ _ _ _ _ _ _ _ _ _
      | exact metrolabref44_KeepsBox.mono _ _ _ _ _ _ _ _ _ _ _
      | exact LeO.none _
      | refine LeO.ite ?_ ?_
      | refine LeO.bind ?_ (fun _ => ?_)
set_option maxHeartbeats 8000000 in
set_option maxRecDepth 100000 in
theorem metrolablaw44_BonusKeeps.calls (k : Nat) (a0_0 : Int) (a0_1 : Int) (a0_2 : Int) (a0_3 : Int) (a0_4 : Int) (a0_5 : Int) (a0_6 : Bool) (a1_0 : Int) (a1_1 : Int) (a1_2 : Int) (r : Bool) (w : World) (h : metrolablaw44_BonusKeeps.f k a0_0 a0_1 a0_2 a0_3 a0_4 a0_5 a0_6 a1_0 a1_1 a1_2 = some r) (hS : SignsAt w) :
    Calls Tryd.prog 11 #[.agg #[.int .i64 a0_0, .int .i64 a0_1, .int .i64 a0_2, .int .i64 a0_3, .int .i64 a0_4, .int .i64 a0_5, .bool a0_6], .agg #[.int .i64 a1_0, .int .i64 a1_1, .int .i64 a1_2]] w fun e w' => e = .returned (.bool r) ∧ Below w.heap.size w w' := by
  have HS := Aside0.mk hS
  clear hS
  have hu27 := Tryd.underlying27
  have hu68 := Tryd.underlying68
  have HB := Aside0.mk (Below.refl w.heap.size w)
  have H : ((bonus_Distance.f k a0_0 a0_1 a0_2 a0_3 a0_4 a0_5 a0_6 a1_0 a1_1 a1_2).bind fun bt346 => ((metrolabref44_Distance.f k a0_0 a0_1 a0_2 a0_3 a0_4 a0_5 a0_6 a1_0 a1_1 a1_2).bind fun bt348 => ((bonus_Keeps.f k a0_0 a0_1 a0_2 a0_3 a0_4 a0_5 a0_6 a1_0 a1_1 a1_2).bind fun bt350 => ((metrolabref44_Keeps.f k a0_0 a0_1 a0_2 a0_3 a0_4 a0_5 a0_6 a1_0 a1_1 a1_2).bind fun bt352 => (if bt346.1 = bt348.1 then (if bt346.2 = bt348.2 then (if (bt350.1 != bt352.1) = true then (metrolablaw44_BonusKeeps.j0 k true a0_0 a0_1 a0_2 a0_3 a0_4 a0_5 a0_6 a1_0 a1_1 a1_2) else (metrolablaw44_BonusKeeps.j0 k (bt350.2 != bt352.2) a0_0 a0_1 a0_2 a0_3 a0_4 a0_5 a0_6 a1_0 a1_1 a1_2)) else (metrolablaw44_BonusKeeps.j0 k true a0_0 a0_1 a0_2 a0_3 a0_4 a0_5 a0_6 a1_0 a1_1 a1_2)) else (metrolablaw44_BonusKeeps.j0 k true a0_0 a0_1 a0_2 a0_3 a0_4 a0_5 a0_6 a1_0 a1_1 a1_2)))))) = some r := h
  clear h
  replace H := Option.bind_eq_some_iff.mp H
  obtain ⟨⟨t346, t347⟩, A30, H⟩ := H
  replace H : ((metrolabref44_Distance.f k a0_0 a0_1 a0_2 a0_3 a0_4 a0_5 a0_6 a1_0 a1_1 a1_2).bind fun bt348 => ((bonus_Keeps.f k a0_0 a0_1 a0_2 a0_3 a0_4 a0_5 a0_6 a1_0 a1_1 a1_2).bind fun bt350 => ((metrolabref44_Keeps.f k a0_0 a0_1 a0_2 a0_3 a0_4 a0_5 a0_6 a1_0 a1_1 a1_2).bind fun bt352 => (if t346 = bt348.1 then (if t347 = bt348.2 then (if (bt350.1 != bt352.1) = true then (metrolablaw44_BonusKeeps.j0 k true a0_0 a0_1 a0_2 a0_3 a0_4 a0_5 a0_6 a1_0 a1_1 a1_2) else (metrolablaw44_BonusKeeps.j0 k (bt350.2 != bt352.2) a0_0 a0_1 a0_2 a0_3 a0_4 a0_5 a0_6 a1_0 a1_1 a1_2)) else (metrolablaw44_BonusKeeps.j0 k true a0_0 a0_1 a0_2 a0_3 a0_4 a0_5 a0_6 a1_0 a1_1 a1_2)) else (metrolablaw44_BonusKeeps.j0 k true a0_0 a0_1 a0_2 a0_3 a0_4 a0_5 a0_6 a1_0 a1_1 a1_2))))) = some r := H
  have A3 := Aside0.mk A30
  clear A30
  replace H := Option.bind_eq_some_iff.mp H
  obtain ⟨⟨t348, t349⟩, A40, H⟩ := H
  replace H : ((bonus_Keeps.f k a0_0 a0_1 a0_2 a0_3 a0_4 a0_5 a0_6 a1_0 a1_1 a1_2).bind fun bt350 => ((metrolabref44_Keeps.f k a0_0 a0_1 a0_2 a0_3 a0_4 a0_5 a0_6 a1_0 a1_1 a1_2).bind fun bt352 => (if t346 = t348 then (if t347 = t349 then (if (bt350.1 != bt352.1) = true then (metrolablaw44_BonusKeeps.j0 k true a0_0 a0_1 a0_2 a0_3 a0_4 a0_5 a0_6 a1_0 a1_1 a1_2) else (metrolablaw44_BonusKeeps.j0 k (bt350.2 != bt352.2) a0_0 a0_1 a0_2 a0_3 a0_4 a0_5 a0_6 a1_0 a1_1 a1_2)) else (metrolablaw44_BonusKeeps.j0 k true a0_0 a0_1 a0_2 a0_3 a0_4 a0_5 a0_6 a1_0 a1_1 a1_2)) else (metrolablaw44_BonusKeeps.j0 k true a0_0 a0_1 a0_2 a0_3 a0_4 a0_5 a0_6 a1_0 a1_1 a1_2)))) = some r := H
  have A4 := Aside0.mk A40
  clear A40
  replace H := Option.bind_eq_some_iff.mp H
  obtain ⟨⟨t350, t351⟩, A50, H⟩ := H
  replace H : ((metrolabref44_Keeps.f k a0_0 a0_1 a0_2 a0_3 a0_4 a0_5 a0_6 a1_0 a1_1 a1_2).bind fun bt352 => (if t346 = t348 then (if t347 = t349 then (if (t350 != bt352.1) = true then (metrolablaw44_BonusKeeps.j0 k true a0_0 a0_1 a0_2 a0_3 a0_4 a0_5 a0_6 a1_0 a1_1 a1_2) else (metrolablaw44_BonusKeeps.j0 k (t351 != bt352.2) a0_0 a0_1 a0_2 a0_3 a0_4 a0_5 a0_6 a1_0 a1_1 a1_2)) else (metrolablaw44_BonusKeeps.j0 k true a0_0 a0_1 a0_2 a0_3 a0_4 a0_5 a0_6 a1_0 a1_1 a1_2)) else (metrolablaw44_BonusKeeps.j0 k true a0_0 a0_1 a0_2 a0_3 a0_4 a0_5 a0_6 a1_0 a1_1 a1_2))) = some r := H
  have A5 := Aside0.mk A50
  clear A50
  replace H := Option.bind_eq_some_iff.mp H
  obtain ⟨⟨t352, t353⟩, A60, H⟩ := H
  replace H : (if t346 = t348 then (if t347 = t349 then (if (t350 != t352) = true then (metrolablaw44_BonusKeeps.j0 k true a0_0 a0_1 a0_2 a0_3 a0_4 a0_5 a0_6 a1_0 a1_1 a1_2) else (metrolablaw44_BonusKeeps.j0 k (t351 != t353) a0_0 a0_1 a0_2 a0_3 a0_4 a0_5 a0_6 a1_0 a1_1 a1_2)) else (metrolablaw44_BonusKeeps.j0 k true a0_0 a0_1 a0_2 a0_3 a0_4 a0_5 a0_6 a1_0 a1_1 a1_2)) else (metrolablaw44_BonusKeeps.j0 k true a0_0 a0_1 a0_2 a0_3 a0_4 a0_5 a0_6 a1_0 a1_1 a1_2)) = some r := H
  have A6 := Aside0.mk A60
  clear A60
  have HC7 := Aside0.mk H
  clear H
  go_enter Tryd.func11, Tryd.ntmps11
  go_upto_region 5 with (first | ((with_reducible refine gate_dst (N := 2) rfl ?_); refine box_event ?hg (N := 2) ?hd (cs := #[.int .i64 a0_0, .int .i64 a0_1, .int .i64 a0_2, .int .i64 a0_3, .int .i64 a0_4, .int .i64 a0_5, .bool a0_6]) (t := 27) ?hr ?_; (case hd => rfl); (case hg => rfl); (case hr => first | (go_simp; done) | (go_simp; rfl)); intro gb344 hg w8 hbox hb; have n0_ := Aside0.mk (below_step (by repeat (first | (with_reducible first | exact HB.out | apply below_alloc | apply pw_below_drewN | apply below_drew1) | exact HB.out)) hb); have n1_ := Aside0.mk (hbox); have n2_ := Aside0.mk ((by rw [hg]; exact (below_size (by repeat (first | (with_reducible first | exact HB.out | apply below_alloc | apply pw_below_drewN | apply below_drew1) | exact HB.out))) : w.heap.size ≤ gb344)); have n3_ := Aside0.mk ((by rw [hg]; exact (below_size (by repeat (first | (with_reducible first | exact HB.out | apply below_alloc | apply pw_below_drewN | apply below_drew1) | exact HB.out))) : w.heap.size ≤ gb344)); clear HB; have HB := n0_; have BK344 := n1_; have GW344 := n2_; have GE344 := n3_; clear n0_ n1_ n2_ n3_; clear hb hbox hg) | ((with_reducible refine gate_dst (N := 3) rfl ?_); refine box_event ?hg (N := 3) ?hd (cs := #[.int .i64 a1_0, .int .i64 a1_1, .int .i64 a1_2]) (t := 68) ?hr ?_; (case hd => rfl); (case hg => rfl); (case hr => first | (go_simp; done) | (go_simp; rfl)); intro gb345 hg w9 hbox hb; have n0_ := Aside0.mk (blk_below (g := gb344) (o := .cells #[.int .i64 a0_0, .int .i64 a0_1, .int .i64 a0_2, .int .i64 a0_3, .int .i64 a0_4, .int .i64 a0_5, .bool a0_6] 27 (0, 0)) (by (with_reducible repeat (first | refine blk_drewN ?_ _ | refine blk_drew ?_ | refine blk_alloc ?_ _)); exact BK344.out) hb); have n1_ := Aside0.mk (below_step (by repeat (first | (with_reducible first | exact HB.out | apply below_alloc | apply pw_below_drewN | apply below_drew1 | refine below_set ?_ GE344.out) | exact HB.out)) hb); have n2_ := Aside0.mk (hbox); have n3_ := Aside0.mk ((by rw [hg]; exact (below_size (by repeat (first | (with_reducible first | exact HB.out | apply below_alloc | apply pw_below_drewN | apply below_drew1 | refine below_set ?_ GE344.out) | exact HB.out))) : w.heap.size ≤ gb345)); have n4_ := Aside0.mk ((by rw [hg]; exact (below_size (by repeat (first | (with_reducible first | exact HB.out | apply below_alloc | apply pw_below_drewN | apply below_drew1 | refine below_set ?_ GE344.out) | exact HB.out))) : w.heap.size ≤ gb345)); have n5_ := Aside0.mk ((by rw [hg]; exact Nat.ne_of_lt (blk_lt (g := gb344) (o := .cells #[.int .i64 a0_0, .int .i64 a0_1, .int .i64 a0_2, .int .i64 a0_3, .int .i64 a0_4, .int .i64 a0_5, .bool a0_6] 27 (0, 0)) (by (with_reducible repeat (first | refine blk_drewN ?_ _ | refine blk_drew ?_ | refine blk_alloc ?_ _)); exact BK344.out)) : gb344 ≠ gb345)); have n6_ := Aside0.mk ((by rw [hg]; exact Nat.ne_of_gt (blk_lt (g := gb344) (o := .cells #[.int .i64 a0_0, .int .i64 a0_1, .int .i64 a0_2, .int .i64 a0_3, .int .i64 a0_4, .int .i64 a0_5, .bool a0_6] 27 (0, 0)) (by (with_reducible repeat (first | refine blk_drewN ?_ _ | refine blk_drew ?_ | refine blk_alloc ?_ _)); exact BK344.out)) : gb345 ≠ gb344)); clear BK344; clear HB; have BK344 := n0_; have HB := n1_; have BK345 := n2_; have GW345 := n3_; have GE345 := n4_; have NB344_345 := n5_; have NB345_344 := n6_; clear n0_ n1_ n2_ n3_ n4_ n5_ n6_; clear hb hbox hg; have hnb10 := NB344_345.out; have hnc10 := NB345_344.out; have hcz11_0 : w9.cell? ⟨gb344, 0, none⟩ = some (.int .i64 a0_0) := (blk_cell BK344.out 0).trans rfl; have hcz11_1 : w9.cell? ⟨gb344, 1, none⟩ = some (.int .i64 a0_1) := (blk_cell BK344.out 1).trans rfl; have hcz11_2 : w9.cell? ⟨gb344, 2, none⟩ = some (.int .i64 a0_2) := (blk_cell BK344.out 2).trans rfl; have hcz11_3 : w9.cell? ⟨gb344, 3, none⟩ = some (.int .i64 a0_3) := (blk_cell BK344.out 3).trans rfl; have hcz11_4 : w9.cell? ⟨gb344, 4, none⟩ = some (.int .i64 a0_4) := (blk_cell BK344.out 4).trans rfl; have hcz11_5 : w9.cell? ⟨gb344, 5, none⟩ = some (.int .i64 a0_5) := (blk_cell BK344.out 5).trans rfl; have hcz11_6 : w9.cell? ⟨gb344, 6, none⟩ = some (.bool a0_6) := (blk_cell BK344.out 6).trans rfl; have hfz11_0 := blk_frozen BK344.out 0; have hfz11_1 := blk_frozen BK344.out 1; have hfz11_2 := blk_frozen BK344.out 2; have hfz11_3 := blk_frozen BK344.out 3; have hfz11_4 := blk_frozen BK344.out 4; have hfz11_5 := blk_frozen BK344.out 5; have hfz11_6 := blk_frozen BK344.out 6; have hcz12_0 : w9.cell? ⟨gb345, 0, none⟩ = some (.int .i64 a1_0) := (blk_cell BK345.out 0).trans rfl; have hcz12_1 : w9.cell? ⟨gb345, 1, none⟩ = some (.int .i64 a1_1) := (blk_cell BK345.out 1).trans rfl; have hcz12_2 : w9.cell? ⟨gb345, 2, none⟩ = some (.int .i64 a1_2) := (blk_cell BK345.out 2).trans rfl; have hfz12_0 := blk_frozen BK345.out 0; have hfz12_1 := blk_frozen BK345.out 1; have hfz12_2 := blk_frozen BK345.out 2) | ((with_reducible refine gate_callee (f := 43) rfl ?_); refine goesL_ (some 16) rfl rfl Tryd.func43 (by kernel_rfl) rfl #[.agg #[.int .i64 a0_0, .int .i64 a0_1, .int .i64 a0_2, .int .i64 a0_3, .int .i64 a0_4, .int .i64 a0_5, .bool a0_6], .agg #[.int .i64 a1_0, .int .i64 a1_1, .int .i64 a1_2]] rfl (by (try simp only [List.map_toArray, List.map_cons, List.map_nil]); first | done | rfl | (simp only [List.length_drop, List.length_take]; rfl)) ?_; (with_reducible refine (bonus_Distance.calls k a0_0 a0_1 a0_2 a0_3 a0_4 a0_5 a0_6 a1_0 a1_1 a1_2 t346 t347 _ A3.out).mono ?_); rintro e w13 ⟨rfl, hb⟩; refine ⟨_, rfl, ?_⟩; have n0_ := Aside0.mk (blk_below (g := gb344) (o := .cells #[.int .i64 a0_0, .int .i64 a0_1, .int .i64 a0_2, .int .i64 a0_3, .int .i64 a0_4, .int .i64 a0_5, .bool a0_6] 27 (0, 0)) (by (with_reducible repeat (first | refine blk_drewN ?_ _ | refine blk_drew ?_ | refine blk_alloc ?_ _)); exact BK344.out) hb); have n1_ := Aside0.mk (blk_below (g := gb345) (o := .cells #[.int .i64 a1_0, .int .i64 a1_1, .int .i64 a1_2] 68 (0, 0)) (by (with_reducible repeat (first | refine blk_drewN ?_ _ | refine blk_drew ?_ | refine blk_alloc ?_ _)); exact BK345.out) hb); have n2_ := Aside0.mk (below_step (by repeat (first | (with_reducible first | exact HB.out | apply below_alloc | apply pw_below_drewN | apply below_drew1 | refine below_set ?_ GE344.out | refine below_set ?_ GE345.out) | exact HB.out)) hb); clear BK344; clear BK345; clear HB; have BK344 := n0_; have BK345 := n1_; have HB := n2_; clear n0_ n1_ n2_; (try clear hb); (try clear hb2); (try clear hk); (try clear hi); have hcz14_0 : w13.cell? ⟨gb344, 0, none⟩ = some (.int .i64 a0_0) := (blk_cell BK344.out 0).trans rfl; have hcz14_1 : w13.cell? ⟨gb344, 1, none⟩ = some (.int .i64 a0_1) := (blk_cell BK344.out 1).trans rfl; have hcz14_2 : w13.cell? ⟨gb344, 2, none⟩ = some (.int .i64 a0_2) := (blk_cell BK344.out 2).trans rfl; have hcz14_3 : w13.cell? ⟨gb344, 3, none⟩ = some (.int .i64 a0_3) := (blk_cell BK344.out 3).trans rfl; have hcz14_4 : w13.cell? ⟨gb344, 4, none⟩ = some (.int .i64 a0_4) := (blk_cell BK344.out 4).trans rfl; have hcz14_5 : w13.cell? ⟨gb344, 5, none⟩ = some (.int .i64 a0_5) := (blk_cell BK344.out 5).trans rfl; have hcz14_6 : w13.cell? ⟨gb344, 6, none⟩ = some (.bool a0_6) := (blk_cell BK344.out 6).trans rfl; have hfz14_0 := blk_frozen BK344.out 0; have hfz14_1 := blk_frozen BK344.out 1; have hfz14_2 := blk_frozen BK344.out 2; have hfz14_3 := blk_frozen BK344.out 3; have hfz14_4 := blk_frozen BK344.out 4; have hfz14_5 := blk_frozen BK344.out 5; have hfz14_6 := blk_frozen BK344.out 6; have hcz15_0 : w13.cell? ⟨gb345, 0, none⟩ = some (.int .i64 a1_0) := (blk_cell BK345.out 0).trans rfl; have hcz15_1 : w13.cell? ⟨gb345, 1, none⟩ = some (.int .i64 a1_1) := (blk_cell BK345.out 1).trans rfl; have hcz15_2 : w13.cell? ⟨gb345, 2, none⟩ = some (.int .i64 a1_2) := (blk_cell BK345.out 2).trans rfl; have hfz15_0 := blk_frozen BK345.out 0; have hfz15_1 := blk_frozen BK345.out 1; have hfz15_2 := blk_frozen BK345.out 2) | ((with_reducible refine gate_callee (f := 47) rfl ?_); refine goesL_ (some 22) rfl rfl Tryd.func47 (by kernel_rfl) rfl #[.agg #[.int .i64 a0_0, .int .i64 a0_1, .int .i64 a0_2, .int .i64 a0_3, .int .i64 a0_4, .int .i64 a0_5, .bool a0_6], .agg #[.int .i64 a1_0, .int .i64 a1_1, .int .i64 a1_2]] rfl (by (try simp only [List.map_toArray, List.map_cons, List.map_nil]); first | done | rfl | (simp only [List.length_drop, List.length_take]; rfl)) ?_; (with_reducible refine (metrolabref44_Distance.calls k a0_0 a0_1 a0_2 a0_3 a0_4 a0_5 a0_6 a1_0 a1_1 a1_2 t348 t349 _ A4.out).mono ?_); rintro e w16 ⟨rfl, hb⟩; refine ⟨_, rfl, ?_⟩; have n0_ := Aside0.mk (blk_below (g := gb344) (o := .cells #[.int .i64 a0_0, .int .i64 a0_1, .int .i64 a0_2, .int .i64 a0_3, .int .i64 a0_4, .int .i64 a0_5, .bool a0_6] 27 (0, 0)) (by (with_reducible repeat (first | refine blk_drewN ?_ _ | refine blk_drew ?_ | refine blk_alloc ?_ _)); exact BK344.out) hb); have n1_ := Aside0.mk (blk_below (g := gb345) (o := .cells #[.int .i64 a1_0, .int .i64 a1_1, .int .i64 a1_2] 68 (0, 0)) (by (with_reducible repeat (first | refine blk_drewN ?_ _ | refine blk_drew ?_ | refine blk_alloc ?_ _)); exact BK345.out) hb); have n2_ := Aside0.mk (below_step (by repeat (first | (with_reducible first | exact HB.out | apply below_alloc | apply pw_below_drewN | apply below_drew1 | refine below_set ?_ GE344.out | refine below_set ?_ GE345.out) | exact HB.out)) hb); clear BK344; clear BK345; clear HB; have BK344 := n0_; have BK345 := n1_; have HB := n2_; clear n0_ n1_ n2_; (try clear hb); (try clear hb2); (try clear hk); (try clear hi); have hcz17_0 : w16.cell? ⟨gb344, 0, none⟩ = some (.int .i64 a0_0) := (blk_cell BK344.out 0).trans rfl; have hcz17_1 : w16.cell? ⟨gb344, 1, none⟩ = some (.int .i64 a0_1) := (blk_cell BK344.out 1).trans rfl; have hcz17_2 : w16.cell? ⟨gb344, 2, none⟩ = some (.int .i64 a0_2) := (blk_cell BK344.out 2).trans rfl; have hcz17_3 : w16.cell? ⟨gb344, 3, none⟩ = some (.int .i64 a0_3) := (blk_cell BK344.out 3).trans rfl; have hcz17_4 : w16.cell? ⟨gb344, 4, none⟩ = some (.int .i64 a0_4) := (blk_cell BK344.out 4).trans rfl; have hcz17_5 : w16.cell? ⟨gb344, 5, none⟩ = some (.int .i64 a0_5) := (blk_cell BK344.out 5).trans rfl; have hcz17_6 : w16.cell? ⟨gb344, 6, none⟩ = some (.bool a0_6) := (blk_cell BK344.out 6).trans rfl; have hfz17_0 := blk_frozen BK344.out 0; have hfz17_1 := blk_frozen BK344.out 1; have hfz17_2 := blk_frozen BK344.out 2; have hfz17_3 := blk_frozen BK344.out 3; have hfz17_4 := blk_frozen BK344.out 4; have hfz17_5 := blk_frozen BK344.out 5; have hfz17_6 := blk_frozen BK344.out 6; have hcz18_0 : w16.cell? ⟨gb345, 0, none⟩ = some (.int .i64 a1_0) := (blk_cell BK345.out 0).trans rfl; have hcz18_1 : w16.cell? ⟨gb345, 1, none⟩ = some (.int .i64 a1_1) := (blk_cell BK345.out 1).trans rfl; have hcz18_2 : w16.cell? ⟨gb345, 2, none⟩ = some (.int .i64 a1_2) := (blk_cell BK345.out 2).trans rfl; have hfz18_0 := blk_frozen BK345.out 0; have hfz18_1 := blk_frozen BK345.out 1; have hfz18_2 := blk_frozen BK345.out 2) | ((with_reducible refine gate_callee (f := 45) rfl ?_); refine goesL_ (some 28) rfl rfl Tryd.func45 (by kernel_rfl) rfl #[.agg #[.int .i64 a0_0, .int .i64 a0_1, .int .i64 a0_2, .int .i64 a0_3, .int .i64 a0_4, .int .i64 a0_5, .bool a0_6], .agg #[.int .i64 a1_0, .int .i64 a1_1, .int .i64 a1_2]] rfl (by (try simp only [List.map_toArray, List.map_cons, List.map_nil]); first | done | rfl | (simp only [List.length_drop, List.length_take]; rfl)) ?_; (with_reducible refine (bonus_Keeps.calls k a0_0 a0_1 a0_2 a0_3 a0_4 a0_5 a0_6 a1_0 a1_1 a1_2 t350 t351 _ A5.out (by exact sig_below HS.out (by repeat (first | (with_reducible first | exact HB.out | apply below_alloc | apply pw_below_drewN | apply below_drew1 | refine below_set ?_ GE344.out | refine below_set ?_ GE345.out) | exact HB.out)))).mono ?_); rintro e w19 ⟨rfl, hb⟩; refine ⟨_, rfl, ?_⟩; have n0_ := Aside0.mk (blk_below (g := gb344) (o := .cells #[.int .i64 a0_0, .int .i64 a0_1, .int .i64 a0_2, .int .i64 a0_3, .int .i64 a0_4, .int .i64 a0_5, .bool a0_6] 27 (0, 0)) (by (with_reducible repeat (first | refine blk_drewN ?_ _ | refine blk_drew ?_ | refine blk_alloc ?_ _)); exact BK344.out) hb); have n1_ := Aside0.mk (blk_below (g := gb345) (o := .cells #[.int .i64 a1_0, .int .i64 a1_1, .int .i64 a1_2] 68 (0, 0)) (by (with_reducible repeat (first | refine blk_drewN ?_ _ | refine blk_drew ?_ | refine blk_alloc ?_ _)); exact BK345.out) hb); have n2_ := Aside0.mk (below_step (by repeat (first | (with_reducible first | exact HB.out | apply below_alloc | apply pw_below_drewN | apply below_drew1 | refine below_set ?_ GE344.out | refine below_set ?_ GE345.out) | exact HB.out)) hb); clear BK344; clear BK345; clear HB; have BK344 := n0_; have BK345 := n1_; have HB := n2_; clear n0_ n1_ n2_; (try clear hb); (try clear hb2); (try clear hk); (try clear hi); have hcz20_0 : w19.cell? ⟨gb344, 0, none⟩ = some (.int .i64 a0_0) := (blk_cell BK344.out 0).trans rfl; have hcz20_1 : w19.cell? ⟨gb344, 1, none⟩ = some (.int .i64 a0_1) := (blk_cell BK344.out 1).trans rfl; have hcz20_2 : w19.cell? ⟨gb344, 2, none⟩ = some (.int .i64 a0_2) := (blk_cell BK344.out 2).trans rfl; have hcz20_3 : w19.cell? ⟨gb344, 3, none⟩ = some (.int .i64 a0_3) := (blk_cell BK344.out 3).trans rfl; have hcz20_4 : w19.cell? ⟨gb344, 4, none⟩ = some (.int .i64 a0_4) := (blk_cell BK344.out 4).trans rfl; have hcz20_5 : w19.cell? ⟨gb344, 5, none⟩ = some (.int .i64 a0_5) := (blk_cell BK344.out 5).trans rfl; have hcz20_6 : w19.cell? ⟨gb344, 6, none⟩ = some (.bool a0_6) := (blk_cell BK344.out 6).trans rfl; have hfz20_0 := blk_frozen BK344.out 0; have hfz20_1 := blk_frozen BK344.out 1; have hfz20_2 := blk_frozen BK344.out 2; have hfz20_3 := blk_frozen BK344.out 3; have hfz20_4 := blk_frozen BK344.out 4; have hfz20_5 := blk_frozen BK344.out 5; have hfz20_6 := blk_frozen BK344.out 6; have hcz21_0 : w19.cell? ⟨gb345, 0, none⟩ = some (.int .i64 a1_0) := (blk_cell BK345.out 0).trans rfl; have hcz21_1 : w19.cell? ⟨gb345, 1, none⟩ = some (.int .i64 a1_1) := (blk_cell BK345.out 1).trans rfl; have hcz21_2 : w19.cell? ⟨gb345, 2, none⟩ = some (.int .i64 a1_2) := (blk_cell BK345.out 2).trans rfl; have hfz21_0 := blk_frozen BK345.out 0; have hfz21_1 := blk_frozen BK345.out 1; have hfz21_2 := blk_frozen BK345.out 2) | ((with_reducible refine gate_callee (f := 48) rfl ?_); refine goesL_ (some 34) rfl rfl Tryd.func48 (by kernel_rfl) rfl #[.agg #[.int .i64 a0_0, .int .i64 a0_1, .int .i64 a0_2, .int .i64 a0_3, .int .i64 a0_4, .int .i64 a0_5, .bool a0_6], .agg #[.int .i64 a1_0, .int .i64 a1_1, .int .i64 a1_2]] rfl (by (try simp only [List.map_toArray, List.map_cons, List.map_nil]); first | done | rfl | (simp only [List.length_drop, List.length_take]; rfl)) ?_; (with_reducible refine (metrolabref44_Keeps.calls k a0_0 a0_1 a0_2 a0_3 a0_4 a0_5 a0_6 a1_0 a1_1 a1_2 t352 t353 _ A6.out).mono ?_); rintro e w22 ⟨rfl, hb⟩; refine ⟨_, rfl, ?_⟩; have n0_ := Aside0.mk (blk_below (g := gb344) (o := .cells #[.int .i64 a0_0, .int .i64 a0_1, .int .i64 a0_2, .int .i64 a0_3, .int .i64 a0_4, .int .i64 a0_5, .bool a0_6] 27 (0, 0)) (by (with_reducible repeat (first | refine blk_drewN ?_ _ | refine blk_drew ?_ | refine blk_alloc ?_ _)); exact BK344.out) hb); have n1_ := Aside0.mk (blk_below (g := gb345) (o := .cells #[.int .i64 a1_0, .int .i64 a1_1, .int .i64 a1_2] 68 (0, 0)) (by (with_reducible repeat (first | refine blk_drewN ?_ _ | refine blk_drew ?_ | refine blk_alloc ?_ _)); exact BK345.out) hb); have n2_ := Aside0.mk (below_step (by repeat (first | (with_reducible first | exact HB.out | apply below_alloc | apply pw_below_drewN | apply below_drew1 | refine below_set ?_ GE344.out | refine below_set ?_ GE345.out) | exact HB.out)) hb); clear BK344; clear BK345; clear HB; have BK344 := n0_; have BK345 := n1_; have HB := n2_; clear n0_ n1_ n2_; (try clear hb); (try clear hb2); (try clear hk); (try clear hi)))
  (try simp only [Act.put, List.setIfInBounds_toArray, List.set_cons_zero, List.set_cons_succ])
  go_cut [54] (fun v54 wc => ∃ (kq : Nat) (x54_6 : Bool), v54 = .bool x54_6 ∧ Aside0 (metrolablaw44_BonusKeeps.j0 kq x54_6 a0_0 a0_1 a0_2 a0_3 a0_4 a0_5 a0_6 a1_0 a1_1 a1_2 = some r) ∧ Aside0 (kq ≤ k) ∧ Aside0 (wc.heap[gb344]? = some (.cells #[.int .i64 a0_0, .int .i64 a0_1, .int .i64 a0_2, .int .i64 a0_3, .int .i64 a0_4, .int .i64 a0_5, .bool a0_6] 27 (0, 0))) ∧ Aside0 (wc.heap[gb345]? = some (.cells #[.int .i64 a1_0, .int .i64 a1_1, .int .i64 a1_2] 68 (0, 0))) ∧ Aside0 (Below w.heap.size w wc))
  case first =>
    have H := HC7.out
    clear HC7
    by_cases c23 : t346 = t348
    · rw [if_pos c23] at H
      have c23b0 : (t346 == t348) = true := beq_iff_eq.mpr c23
      have c23b1 : (t346 != t348) = false := bne_eq_false_iff_eq.mpr c23
      clear c23
      (first | rw [c23b0] | (simp only [i64_w, i32_w]; rw [c23b0]) | skip)
      by_cases c24 : t347 = t349
      · rw [if_pos c24] at H
        have c24b0 : (t347 == t349) = true := beq_iff_eq.mpr c24
        have c24b1 : (t347 != t349) = false := bne_eq_false_iff_eq.mpr c24
        clear c24
        by_cases c25 : (t350 != t352) = true
        · rw [if_pos c25] at H
          have c25b0 : (t350 != t352) = true := c25
          (try (have c25b1 : decide (t350 = t352) = false := by simpa using c25))
          (try (have c25b2 : (t350 == t352) = false := by simpa using c25))
          (try (have c25b3 : ¬ (t350 = t352) := by simpa using c25))
          clear c25
          have H' := Aside0.mk H
          clear H
          go_wp2
          go_meet
          case rel => exact ⟨_, (true), (by first | rfl | (simp; done) | (simp [*]; done)), H', ⟨by first | omega | exact Nat.le_refl _⟩, ⟨by (with_reducible repeat (first | refine blk_drewN ?_ _ | refine blk_drew ?_ | refine blk_alloc ?_ _)); exact BK344.out⟩, ⟨by (with_reducible repeat (first | refine blk_drewN ?_ _ | refine blk_drew ?_ | refine blk_alloc ?_ _)); exact BK345.out⟩, ⟨by repeat (first | (with_reducible first | exact HB.out | apply below_alloc | apply pw_below_drewN | apply below_drew1 | refine below_set ?_ GE344.out | refine below_set ?_ GE345.out) | exact HB.out)⟩⟩
        · rw [if_neg c25] at H
          have c25b0 : (t350 != t352) = false := by simpa using c25
          (try (have c25b1 : decide (t350 = t352) = true := by simpa using c25))
          (try (have c25b2 : (t350 == t352) = true := by simpa using c25))
          clear c25
          have H' := Aside0.mk H
          clear H
          go_wp2
          go_meet
          case rel => exact ⟨_, ((t351 != t353)), (by first | rfl | (simp; done) | (simp [*]; done)), H', ⟨by first | omega | exact Nat.le_refl _⟩, ⟨by (with_reducible repeat (first | refine blk_drewN ?_ _ | refine blk_drew ?_ | refine blk_alloc ?_ _)); exact BK344.out⟩, ⟨by (with_reducible repeat (first | refine blk_drewN ?_ _ | refine blk_drew ?_ | refine blk_alloc ?_ _)); exact BK345.out⟩, ⟨by repeat (first | (with_reducible first | exact HB.out | apply below_alloc | apply pw_below_drewN | apply below_drew1 | refine below_set ?_ GE344.out | refine below_set ?_ GE345.out) | exact HB.out)⟩⟩
      · rw [if_neg c24] at H
        have c24b0 : (t347 == t349) = false := beq_eq_false_iff_ne.mpr c24
        have c24b1 : (t347 != t349) = true := bne_iff_ne.mpr c24
        have H' := Aside0.mk H
        clear H
        go_wp2
        go_meet
        case rel => exact ⟨_, (true), (by first | rfl | (simp; done) | (simp [*]; done)), H', ⟨by first | omega | exact Nat.le_refl _⟩, ⟨by (with_reducible repeat (first | refine blk_drewN ?_ _ | refine blk_drew ?_ | refine blk_alloc ?_ _)); exact BK344.out⟩, ⟨by (with_reducible repeat (first | refine blk_drewN ?_ _ | refine blk_drew ?_ | refine blk_alloc ?_ _)); exact BK345.out⟩, ⟨by repeat (first | (with_reducible first | exact HB.out | apply below_alloc | apply pw_below_drewN | apply below_drew1 | refine below_set ?_ GE344.out | refine below_set ?_ GE345.out) | exact HB.out)⟩⟩
    · rw [if_neg c23] at H
      have c23b0 : (t346 == t348) = false := beq_eq_false_iff_ne.mpr c23
      have c23b1 : (t346 != t348) = true := bne_iff_ne.mpr c23
      (first | rw [c23b0] | (simp only [i64_w, i32_w]; rw [c23b0]) | skip)
      have H' := Aside0.mk H
      clear H
      go_wp2
      go_meet
      case rel => exact ⟨_, (true), (by first | rfl | (simp; done) | (simp [*]; done)), H', ⟨by first | omega | exact Nat.le_refl _⟩, ⟨by (with_reducible repeat (first | refine blk_drewN ?_ _ | refine blk_drew ?_ | refine blk_alloc ?_ _)); exact BK344.out⟩, ⟨by (with_reducible repeat (first | refine blk_drewN ?_ _ | refine blk_drew ?_ | refine blk_alloc ?_ _)); exact BK345.out⟩, ⟨by repeat (first | (with_reducible first | exact HB.out | apply below_alloc | apply pw_below_drewN | apply below_drew1 | refine below_set ?_ GE344.out | refine below_set ?_ GE345.out) | exact HB.out)⟩⟩
  case rest =>
    clear HC7
    try clear c1
    try clear c2
    try clear p2
    try clear c4
    try clear c10
    try clear c11
    try clear c23
    try clear c23b0
    try clear c23b1
    try clear c24
    try clear c24b0
    try clear c24b1
    try clear c25
    try clear c25b0
    try clear c25b1
    try clear c25b2
    try clear hcz11_0
    try clear hcz11_1
    try clear hcz11_2
    try clear hcz11_3
    try clear hcz11_4
    try clear hcz11_5
    try clear hcz11_6
    try clear hcz12_0
    try clear hcz12_1
    try clear hcz12_2
    try clear hcz14_0
    try clear hcz14_1
    try clear hcz14_2
    try clear hcz14_3
    try clear hcz14_4
    try clear hcz14_5
    try clear hcz14_6
    try clear hcz15_0
    try clear hcz15_1
    try clear hcz15_2
    try clear hcz17_0
    try clear hcz17_1
    try clear hcz17_2
    try clear hcz17_3
    try clear hcz17_4
    try clear hcz17_5
    try clear hcz17_6
    try clear hcz18_0
    try clear hcz18_1
    try clear hcz18_2
    try clear hcz20_0
    try clear hcz20_1
    try clear hcz20_2
    try clear hcz20_3
    try clear hcz20_4
    try clear hcz20_5
    try clear hcz20_6
    try clear hcz21_0
    try clear hcz21_1
    try clear hcz21_2
    try clear hfz11_0
    try clear hfz11_1
    try clear hfz11_2
    try clear hfz11_3
    try clear hfz11_4
    try clear hfz11_5
    try clear hfz11_6
    try clear hfz12_0
    try clear hfz12_1
    try clear hfz12_2
    try clear hfz14_0
    try clear hfz14_1
    try clear hfz14_2
    try clear hfz14_3
    try clear hfz14_4
    try clear hfz14_5
    try clear hfz14_6
    try clear hfz15_0
    try clear hfz15_1
    try clear hfz15_2
    try clear hfz17_0
    try clear hfz17_1
    try clear hfz17_2
    try clear hfz17_3
    try clear hfz17_4
    try clear hfz17_5
    try clear hfz17_6
    try clear hfz18_0
    try clear hfz18_1
    try clear hfz18_2
    try clear hfz20_0
    try clear hfz20_1
    try clear hfz20_2
    try clear hfz20_3
    try clear hfz20_4
    try clear hfz20_5
    try clear hfz20_6
    try clear hfz21_0
    try clear hfz21_1
    try clear hfz21_2
    obtain ⟨kq, x54_6, rfl, HA, HJ6, BK344, BK345, HB⟩ := hcut
    cases kq with
    | zero => exact absurd HA.out (by simp [metrolablaw44_BonusKeeps.j0])
    | succ kj6 =>
      have H := HA.out
      clear HA
      simp only [metrolablaw44_BonusKeeps.j0] at H
      by_cases c26 : x54_6 = true
      · subst c26
        have H1 : (some false) = some r := by rw [if_pos rfl] at H; exact H
        clear H
        have H := H1
        clear H1
        obtain rfl := Option.some.inj H
        go_wp2
        go_ret
        exact ⟨by first | rfl | (simp [errW_none, errW_some] <;> rfl) | (simp [*, errW_none, errW_some] <;> rfl), by repeat (first | (with_reducible first | exact HB.out | apply below_alloc | apply pw_below_drewN | apply below_drew1 | refine below_set ?_ GE344.out | refine below_set ?_ GE345.out) | exact HB.out)⟩
      · replace c26 := Bool.eq_false_iff.mpr c26
        subst c26
        have H1 : ((bonus_KeepsBox.f kj6 a0_0 a0_1 a0_2 a0_3 a0_4 a0_5 a0_6 a1_0 a1_1 a1_2).bind fun bt354 => ((metrolabref44_KeepsBox.f kj6 a0_0 a0_1 a0_2 a0_3 a0_4 a0_5 a0_6 a1_0 a1_1 a1_2).bind fun bt356 => (if (bt354.1 == bt356.1) = true then (if bt354.2 = bt356.2 then ((metrolablaw44_awake.f).bind fun t358 => (some t358)) else (some false)) else (some false)))) = some r := by rw [if_neg (show ¬ (false = true) by decide)] at H; exact H
        clear H
        have H := H1
        clear H1
        replace H := Option.bind_eq_some_iff.mp H
        obtain ⟨⟨t354, t355⟩, A270, H⟩ := H
        replace H : ((metrolabref44_KeepsBox.f kj6 a0_0 a0_1 a0_2 a0_3 a0_4 a0_5 a0_6 a1_0 a1_1 a1_2).bind fun bt356 => (if (t354 == bt356.1) = true then (if t355 = bt356.2 then ((metrolablaw44_awake.f).bind fun t358 => (some t358)) else (some false)) else (some false))) = some r := H
        have A27 := Aside0.mk A270
        clear A270
        replace H := Option.bind_eq_some_iff.mp H
        obtain ⟨⟨t356, t357⟩, A280, H⟩ := H
        replace H : (if (t354 == t356) = true then (if t355 = t357 then ((metrolablaw44_awake.f).bind fun t358 => (some t358)) else (some false)) else (some false)) = some r := H
        have A28 := Aside0.mk A280
        clear A280
        by_cases c29 : (t354 == t356) = true
        · rw [if_pos c29] at H
          have c29b0 : (t354 == t356) = true := c29
          (try (have c29b1 : decide (t354 = t356) = true := by simpa using c29))
          (try (have c29b2 : (t354 == t356) = true := by simpa using c29))
          clear c29
          by_cases c30 : t355 = t357
          · rw [if_pos c30] at H
            have c30b0 : (t355 == t357) = true := beq_iff_eq.mpr c30
            have c30b1 : (t355 != t357) = false := bne_eq_false_iff_eq.mpr c30
            clear c30
            replace H := Option.bind_eq_some_iff.mp H
            obtain ⟨t358, A310, H⟩ := H
            replace H : (some t358) = some r := H
            have A31 := Aside0.mk A310
            clear A310
            obtain rfl := Option.some.inj H
            have hnb32 := NB344_345.out
            have hnc32 := NB345_344.out
            have hcz33_0 : wc.cell? ⟨gb344, 0, none⟩ = some (.int .i64 a0_0) := (blk_cell BK344.out 0).trans rfl
            have hcz33_1 : wc.cell? ⟨gb344, 1, none⟩ = some (.int .i64 a0_1) := (blk_cell BK344.out 1).trans rfl
            have hcz33_2 : wc.cell? ⟨gb344, 2, none⟩ = some (.int .i64 a0_2) := (blk_cell BK344.out 2).trans rfl
            have hcz33_3 : wc.cell? ⟨gb344, 3, none⟩ = some (.int .i64 a0_3) := (blk_cell BK344.out 3).trans rfl
            have hcz33_4 : wc.cell? ⟨gb344, 4, none⟩ = some (.int .i64 a0_4) := (blk_cell BK344.out 4).trans rfl
            have hcz33_5 : wc.cell? ⟨gb344, 5, none⟩ = some (.int .i64 a0_5) := (blk_cell BK344.out 5).trans rfl
            have hcz33_6 : wc.cell? ⟨gb344, 6, none⟩ = some (.bool a0_6) := (blk_cell BK344.out 6).trans rfl
            have hfz33_0 := blk_frozen BK344.out 0
            have hfz33_1 := blk_frozen BK344.out 1
            have hfz33_2 := blk_frozen BK344.out 2
            have hfz33_3 := blk_frozen BK344.out 3
            have hfz33_4 := blk_frozen BK344.out 4
            have hfz33_5 := blk_frozen BK344.out 5
            have hfz33_6 := blk_frozen BK344.out 6
            have hcz34_0 : wc.cell? ⟨gb345, 0, none⟩ = some (.int .i64 a1_0) := (blk_cell BK345.out 0).trans rfl
            have hcz34_1 : wc.cell? ⟨gb345, 1, none⟩ = some (.int .i64 a1_1) := (blk_cell BK345.out 1).trans rfl
            have hcz34_2 : wc.cell? ⟨gb345, 2, none⟩ = some (.int .i64 a1_2) := (blk_cell BK345.out 2).trans rfl
            have hfz34_0 := blk_frozen BK345.out 0
            have hfz34_1 := blk_frozen BK345.out 1
            have hfz34_2 := blk_frozen BK345.out 2
            go_wp2_with (first | ((with_reducible refine gate_callee (f := 46) rfl ?_); refine goesL_ (some 58) rfl rfl Tryd.func46 (by kernel_rfl) rfl #[.agg #[.int .i64 a0_0, .int .i64 a0_1, .int .i64 a0_2, .int .i64 a0_3, .int .i64 a0_4, .int .i64 a0_5, .bool a0_6], .agg #[.int .i64 a1_0, .int .i64 a1_1, .int .i64 a1_2]] rfl (by (try simp only [List.map_toArray, List.map_cons, List.map_nil]); first | done | rfl | (simp only [List.length_drop, List.length_take]; rfl)) ?_; (with_reducible refine (bonus_KeepsBox.calls kj6 a0_0 a0_1 a0_2 a0_3 a0_4 a0_5 a0_6 a1_0 a1_1 a1_2 t354 t355 _ A27.out (by exact sig_below HS.out (by repeat (first | (with_reducible first | exact HB.out | apply below_alloc | apply pw_below_drewN | apply below_drew1 | refine below_set ?_ GE344.out | refine below_set ?_ GE345.out) | exact HB.out)))).mono ?_); rintro e w35 ⟨rfl, hb⟩; refine ⟨_, rfl, ?_⟩; have n0_ := Aside0.mk (blk_below (g := gb344) (o := .cells #[.int .i64 a0_0, .int .i64 a0_1, .int .i64 a0_2, .int .i64 a0_3, .int .i64 a0_4, .int .i64 a0_5, .bool a0_6] 27 (0, 0)) (by (with_reducible repeat (first | refine blk_drewN ?_ _ | refine blk_drew ?_ | refine blk_alloc ?_ _)); exact BK344.out) hb); have n1_ := Aside0.mk (blk_below (g := gb345) (o := .cells #[.int .i64 a1_0, .int .i64 a1_1, .int .i64 a1_2] 68 (0, 0)) (by (with_reducible repeat (first | refine blk_drewN ?_ _ | refine blk_drew ?_ | refine blk_alloc ?_ _)); exact BK345.out) hb); have n2_ := Aside0.mk (below_step (by repeat (first | (with_reducible first | exact HB.out | apply below_alloc | apply pw_below_drewN | apply below_drew1 | refine below_set ?_ GE344.out | refine below_set ?_ GE345.out) | exact HB.out)) hb); clear BK344; clear BK345; clear HB; have BK344 := n0_; have BK345 := n1_; have HB := n2_; clear n0_ n1_ n2_; (try clear hb); (try clear hb2); (try clear hk); (try clear hi); have hcz36_0 : w35.cell? ⟨gb344, 0, none⟩ = some (.int .i64 a0_0) := (blk_cell BK344.out 0).trans rfl; have hcz36_1 : w35.cell? ⟨gb344, 1, none⟩ = some (.int .i64 a0_1) := (blk_cell BK344.out 1).trans rfl; have hcz36_2 : w35.cell? ⟨gb344, 2, none⟩ = some (.int .i64 a0_2) := (blk_cell BK344.out 2).trans rfl; have hcz36_3 : w35.cell? ⟨gb344, 3, none⟩ = some (.int .i64 a0_3) := (blk_cell BK344.out 3).trans rfl; have hcz36_4 : w35.cell? ⟨gb344, 4, none⟩ = some (.int .i64 a0_4) := (blk_cell BK344.out 4).trans rfl; have hcz36_5 : w35.cell? ⟨gb344, 5, none⟩ = some (.int .i64 a0_5) := (blk_cell BK344.out 5).trans rfl; have hcz36_6 : w35.cell? ⟨gb344, 6, none⟩ = some (.bool a0_6) := (blk_cell BK344.out 6).trans rfl; have hfz36_0 := blk_frozen BK344.out 0; have hfz36_1 := blk_frozen BK344.out 1; have hfz36_2 := blk_frozen BK344.out 2; have hfz36_3 := blk_frozen BK344.out 3; have hfz36_4 := blk_frozen BK344.out 4; have hfz36_5 := blk_frozen BK344.out 5; have hfz36_6 := blk_frozen BK344.out 6; have hcz37_0 : w35.cell? ⟨gb345, 0, none⟩ = some (.int .i64 a1_0) := (blk_cell BK345.out 0).trans rfl; have hcz37_1 : w35.cell? ⟨gb345, 1, none⟩ = some (.int .i64 a1_1) := (blk_cell BK345.out 1).trans rfl; have hcz37_2 : w35.cell? ⟨gb345, 2, none⟩ = some (.int .i64 a1_2) := (blk_cell BK345.out 2).trans rfl; have hfz37_0 := blk_frozen BK345.out 0; have hfz37_1 := blk_frozen BK345.out 1; have hfz37_2 := blk_frozen BK345.out 2) | ((with_reducible refine gate_callee (f := 49) rfl ?_); refine goesL_ (some 64) rfl rfl Tryd.func49 (by kernel_rfl) rfl #[.agg #[.int .i64 a0_0, .int .i64 a0_1, .int .i64 a0_2, .int .i64 a0_3, .int .i64 a0_4, .int .i64 a0_5, .bool a0_6], .agg #[.int .i64 a1_0, .int .i64 a1_1, .int .i64 a1_2]] rfl (by (try simp only [List.map_toArray, List.map_cons, List.map_nil]); first | done | rfl | (simp only [List.length_drop, List.length_take]; rfl)) ?_; (with_reducible refine (metrolabref44_KeepsBox.calls kj6 a0_0 a0_1 a0_2 a0_3 a0_4 a0_5 a0_6 a1_0 a1_1 a1_2 t356 t357 _ A28.out).mono ?_); rintro e w38 ⟨rfl, hb⟩; refine ⟨_, rfl, ?_⟩; have n0_ := Aside0.mk (blk_below (g := gb344) (o := .cells #[.int .i64 a0_0, .int .i64 a0_1, .int .i64 a0_2, .int .i64 a0_3, .int .i64 a0_4, .int .i64 a0_5, .bool a0_6] 27 (0, 0)) (by (with_reducible repeat (first | refine blk_drewN ?_ _ | refine blk_drew ?_ | refine blk_alloc ?_ _)); exact BK344.out) hb); have n1_ := Aside0.mk (blk_below (g := gb345) (o := .cells #[.int .i64 a1_0, .int .i64 a1_1, .int .i64 a1_2] 68 (0, 0)) (by (with_reducible repeat (first | refine blk_drewN ?_ _ | refine blk_drew ?_ | refine blk_alloc ?_ _)); exact BK345.out) hb); have n2_ := Aside0.mk (below_step (by repeat (first | (with_reducible first | exact HB.out | apply below_alloc | apply pw_below_drewN | apply below_drew1 | refine below_set ?_ GE344.out | refine below_set ?_ GE345.out) | exact HB.out)) hb); clear BK344; clear BK345; clear HB; have BK344 := n0_; have BK345 := n1_; have HB := n2_; clear n0_ n1_ n2_; (try clear hb); (try clear hb2); (try clear hk); (try clear hi)) | (go_at_call 24; (with_reducible refine (metrolablaw44_awake.calls  t358 _ A31.out (by exact sig_below HS.out (by repeat (first | (with_reducible first | exact HB.out | apply below_alloc | apply pw_below_drewN | apply below_drew1 | refine below_set ?_ GE344.out | refine below_set ?_ GE345.out) | exact HB.out)))).mono ?_); rintro e w39 ⟨rfl, hb⟩; have n0_ := Aside0.mk (blk_below (g := gb344) (o := .cells #[.int .i64 a0_0, .int .i64 a0_1, .int .i64 a0_2, .int .i64 a0_3, .int .i64 a0_4, .int .i64 a0_5, .bool a0_6] 27 (0, 0)) (by (with_reducible repeat (first | refine blk_drewN ?_ _ | refine blk_drew ?_ | refine blk_alloc ?_ _)); exact BK344.out) hb); have n1_ := Aside0.mk (blk_below (g := gb345) (o := .cells #[.int .i64 a1_0, .int .i64 a1_1, .int .i64 a1_2] 68 (0, 0)) (by (with_reducible repeat (first | refine blk_drewN ?_ _ | refine blk_drew ?_ | refine blk_alloc ?_ _)); exact BK345.out) hb); have n2_ := Aside0.mk (below_step (by repeat (first | (with_reducible first | exact HB.out | apply below_alloc | apply pw_below_drewN | apply below_drew1 | refine below_set ?_ GE344.out | refine below_set ?_ GE345.out) | exact HB.out)) hb); clear BK344; clear BK345; clear HB; have BK344 := n0_; have BK345 := n1_; have HB := n2_; clear n0_ n1_ n2_; (try clear hb); (try clear hb2); (try clear hk); (try clear hi)))
            go_ret
            exact ⟨by first | rfl | (simp [errW_none, errW_some] <;> rfl) | (simp [*, errW_none, errW_some] <;> rfl), by repeat (first | (with_reducible first | exact HB.out | apply below_alloc | apply pw_below_drewN | apply below_drew1 | refine below_set ?_ GE344.out | refine below_set ?_ GE345.out) | exact HB.out)⟩
          · rw [if_neg c30] at H
            have c30b0 : (t355 == t357) = false := beq_eq_false_iff_ne.mpr c30
            have c30b1 : (t355 != t357) = true := bne_iff_ne.mpr c30
            obtain rfl := Option.some.inj H
            have hnb40 := NB344_345.out
            have hnc40 := NB345_344.out
            have hcz41_0 : wc.cell? ⟨gb344, 0, none⟩ = some (.int .i64 a0_0) := (blk_cell BK344.out 0).trans rfl
            have hcz41_1 : wc.cell? ⟨gb344, 1, none⟩ = some (.int .i64 a0_1) := (blk_cell BK344.out 1).trans rfl
            have hcz41_2 : wc.cell? ⟨gb344, 2, none⟩ = some (.int .i64 a0_2) := (blk_cell BK344.out 2).trans rfl
            have hcz41_3 : wc.cell? ⟨gb344, 3, none⟩ = some (.int .i64 a0_3) := (blk_cell BK344.out 3).trans rfl
            have hcz41_4 : wc.cell? ⟨gb344, 4, none⟩ = some (.int .i64 a0_4) := (blk_cell BK344.out 4).trans rfl
            have hcz41_5 : wc.cell? ⟨gb344, 5, none⟩ = some (.int .i64 a0_5) := (blk_cell BK344.out 5).trans rfl
            have hcz41_6 : wc.cell? ⟨gb344, 6, none⟩ = some (.bool a0_6) := (blk_cell BK344.out 6).trans rfl
            have hfz41_0 := blk_frozen BK344.out 0
            have hfz41_1 := blk_frozen BK344.out 1
            have hfz41_2 := blk_frozen BK344.out 2
            have hfz41_3 := blk_frozen BK344.out 3
            have hfz41_4 := blk_frozen BK344.out 4
            have hfz41_5 := blk_frozen BK344.out 5
            have hfz41_6 := blk_frozen BK344.out 6
            have hcz42_0 : wc.cell? ⟨gb345, 0, none⟩ = some (.int .i64 a1_0) := (blk_cell BK345.out 0).trans rfl
            have hcz42_1 : wc.cell? ⟨gb345, 1, none⟩ = some (.int .i64 a1_1) := (blk_cell BK345.out 1).trans rfl
            have hcz42_2 : wc.cell? ⟨gb345, 2, none⟩ = some (.int .i64 a1_2) := (blk_cell BK345.out 2).trans rfl
            have hfz42_0 := blk_frozen BK345.out 0
            have hfz42_1 := blk_frozen BK345.out 1
            have hfz42_2 := blk_frozen BK345.out 2
            go_wp2_with (first | ((with_reducible refine gate_callee (f := 46) rfl ?_); refine goesL_ (some 58) rfl rfl Tryd.func46 (by kernel_rfl) rfl #[.agg #[.int .i64 a0_0, .int .i64 a0_1, .int .i64 a0_2, .int .i64 a0_3, .int .i64 a0_4, .int .i64 a0_5, .bool a0_6], .agg #[.int .i64 a1_0, .int .i64 a1_1, .int .i64 a1_2]] rfl (by (try simp only [List.map_toArray, List.map_cons, List.map_nil]); first | done | rfl | (simp only [List.length_drop, List.length_take]; rfl)) ?_; (with_reducible refine (bonus_KeepsBox.calls kj6 a0_0 a0_1 a0_2 a0_3 a0_4 a0_5 a0_6 a1_0 a1_1 a1_2 t354 t355 _ A27.out (by exact sig_below HS.out (by repeat (first | (with_reducible first | exact HB.out | apply below_alloc | apply pw_below_drewN | apply below_drew1 | refine below_set ?_ GE344.out | refine below_set ?_ GE345.out) | exact HB.out)))).mono ?_); rintro e w43 ⟨rfl, hb⟩; refine ⟨_, rfl, ?_⟩; have n0_ := Aside0.mk (blk_below (g := gb344) (o := .cells #[.int .i64 a0_0, .int .i64 a0_1, .int .i64 a0_2, .int .i64 a0_3, .int .i64 a0_4, .int .i64 a0_5, .bool a0_6] 27 (0, 0)) (by (with_reducible repeat (first | refine blk_drewN ?_ _ | refine blk_drew ?_ | refine blk_alloc ?_ _)); exact BK344.out) hb); have n1_ := Aside0.mk (blk_below (g := gb345) (o := .cells #[.int .i64 a1_0, .int .i64 a1_1, .int .i64 a1_2] 68 (0, 0)) (by (with_reducible repeat (first | refine blk_drewN ?_ _ | refine blk_drew ?_ | refine blk_alloc ?_ _)); exact BK345.out) hb); have n2_ := Aside0.mk (below_step (by repeat (first | (with_reducible first | exact HB.out | apply below_alloc | apply pw_below_drewN | apply below_drew1 | refine below_set ?_ GE344.out | refine below_set ?_ GE345.out) | exact HB.out)) hb); clear BK344; clear BK345; clear HB; have BK344 := n0_; have BK345 := n1_; have HB := n2_; clear n0_ n1_ n2_; (try clear hb); (try clear hb2); (try clear hk); (try clear hi); have hcz44_0 : w43.cell? ⟨gb344, 0, none⟩ = some (.int .i64 a0_0) := (blk_cell BK344.out 0).trans rfl; have hcz44_1 : w43.cell? ⟨gb344, 1, none⟩ = some (.int .i64 a0_1) := (blk_cell BK344.out 1).trans rfl; have hcz44_2 : w43.cell? ⟨gb344, 2, none⟩ = some (.int .i64 a0_2) := (blk_cell BK344.out 2).trans rfl; have hcz44_3 : w43.cell? ⟨gb344, 3, none⟩ = some (.int .i64 a0_3) := (blk_cell BK344.out 3).trans rfl; have hcz44_4 : w43.cell? ⟨gb344, 4, none⟩ = some (.int .i64 a0_4) := (blk_cell BK344.out 4).trans rfl; have hcz44_5 : w43.cell? ⟨gb344, 5, none⟩ = some (.int .i64 a0_5) := (blk_cell BK344.out 5).trans rfl; have hcz44_6 : w43.cell? ⟨gb344, 6, none⟩ = some (.bool a0_6) := (blk_cell BK344.out 6).trans rfl; have hfz44_0 := blk_frozen BK344.out 0; have hfz44_1 := blk_frozen BK344.out 1; have hfz44_2 := blk_frozen BK344.out 2; have hfz44_3 := blk_frozen BK344.out 3; have hfz44_4 := blk_frozen BK344.out 4; have hfz44_5 := blk_frozen BK344.out 5; have hfz44_6 := blk_frozen BK344.out 6; have hcz45_0 : w43.cell? ⟨gb345, 0, none⟩ = some (.int .i64 a1_0) := (blk_cell BK345.out 0).trans rfl; have hcz45_1 : w43.cell? ⟨gb345, 1, none⟩ = some (.int .i64 a1_1) := (blk_cell BK345.out 1).trans rfl; have hcz45_2 : w43.cell? ⟨gb345, 2, none⟩ = some (.int .i64 a1_2) := (blk_cell BK345.out 2).trans rfl; have hfz45_0 := blk_frozen BK345.out 0; have hfz45_1 := blk_frozen BK345.out 1; have hfz45_2 := blk_frozen BK345.out 2) | ((with_reducible refine gate_callee (f := 49) rfl ?_); refine goesL_ (some 64) rfl rfl Tryd.func49 (by kernel_rfl) rfl #[.agg #[.int .i64 a0_0, .int .i64 a0_1, .int .i64 a0_2, .int .i64 a0_3, .int .i64 a0_4, .int .i64 a0_5, .bool a0_6], .agg #[.int .i64 a1_0, .int .i64 a1_1, .int .i64 a1_2]] rfl (by (try simp only [List.map_toArray, List.map_cons, List.map_nil]); first | done | rfl | (simp only [List.length_drop, List.length_take]; rfl)) ?_; (with_reducible refine (metrolabref44_KeepsBox.calls kj6 a0_0 a0_1 a0_2 a0_3 a0_4 a0_5 a0_6 a1_0 a1_1 a1_2 t356 t357 _ A28.out).mono ?_); rintro e w46 ⟨rfl, hb⟩; refine ⟨_, rfl, ?_⟩; have n0_ := Aside0.mk (blk_below (g := gb344) (o := .cells #[.int .i64 a0_0, .int .i64 a0_1, .int .i64 a0_2, .int .i64 a0_3, .int .i64 a0_4, .int .i64 a0_5, .bool a0_6] 27 (0, 0)) (by (with_reducible repeat (first | refine blk_drewN ?_ _ | refine blk_drew ?_ | refine blk_alloc ?_ _)); exact BK344.out) hb); have n1_ := Aside0.mk (blk_below (g := gb345) (o := .cells #[.int .i64 a1_0, .int .i64 a1_1, .int .i64 a1_2] 68 (0, 0)) (by (with_reducible repeat (first | refine blk_drewN ?_ _ | refine blk_drew ?_ | refine blk_alloc ?_ _)); exact BK345.out) hb); have n2_ := Aside0.mk (below_step (by repeat (first | (with_reducible first | exact HB.out | apply below_alloc | apply pw_below_drewN | apply below_drew1 | refine below_set ?_ GE344.out | refine below_set ?_ GE345.out) | exact HB.out)) hb); clear BK344; clear BK345; clear HB; have BK344 := n0_; have BK345 := n1_; have HB := n2_; clear n0_ n1_ n2_; (try clear hb); (try clear hb2); (try clear hk); (try clear hi)))
            go_ret
            exact ⟨by first | rfl | (simp [errW_none, errW_some] <;> rfl) | (simp [*, errW_none, errW_some] <;> rfl), by repeat (first | (with_reducible first | exact HB.out | apply below_alloc | apply pw_below_drewN | apply below_drew1 | refine below_set ?_ GE344.out | refine below_set ?_ GE345.out) | exact HB.out)⟩
        · rw [if_neg c29] at H
          have c29b0 : (t354 == t356) = false := by simpa using c29
          (try (have c29b1 : decide (t354 = t356) = false := by simpa using c29))
          (try (have c29b2 : (t354 == t356) = false := by simpa using c29))
          (try (have c29b3 : ¬ (t354 = t356) := by simpa using c29))
          clear c29
          obtain rfl := Option.some.inj H
          have hnb47 := NB344_345.out
          have hnc47 := NB345_344.out
          have hcz48_0 : wc.cell? ⟨gb344, 0, none⟩ = some (.int .i64 a0_0) := (blk_cell BK344.out 0).trans rfl
          have hcz48_1 : wc.cell? ⟨gb344, 1, none⟩ = some (.int .i64 a0_1) := (blk_cell BK344.out 1).trans rfl
          have hcz48_2 : wc.cell? ⟨gb344, 2, none⟩ = some (.int .i64 a0_2) := (blk_cell BK344.out 2).trans rfl
          have hcz48_3 : wc.cell? ⟨gb344, 3, none⟩ = some (.int .i64 a0_3) := (blk_cell BK344.out 3).trans rfl
          have hcz48_4 : wc.cell? ⟨gb344, 4, none⟩ = some (.int .i64 a0_4) := (blk_cell BK344.out 4).trans rfl
          have hcz48_5 : wc.cell? ⟨gb344, 5, none⟩ = some (.int .i64 a0_5) := (blk_cell BK344.out 5).trans rfl
          have hcz48_6 : wc.cell? ⟨gb344, 6, none⟩ = some (.bool a0_6) := (blk_cell BK344.out 6).trans rfl
          have hfz48_0 := blk_frozen BK344.out 0
          have hfz48_1 := blk_frozen BK344.out 1
          have hfz48_2 := blk_frozen BK344.out 2
          have hfz48_3 := blk_frozen BK344.out 3
          have hfz48_4 := blk_frozen BK344.out 4
          have hfz48_5 := blk_frozen BK344.out 5
          have hfz48_6 := blk_frozen BK344.out 6
          have hcz49_0 : wc.cell? ⟨gb345, 0, none⟩ = some (.int .i64 a1_0) := (blk_cell BK345.out 0).trans rfl
          have hcz49_1 : wc.cell? ⟨gb345, 1, none⟩ = some (.int .i64 a1_1) := (blk_cell BK345.out 1).trans rfl
          have hcz49_2 : wc.cell? ⟨gb345, 2, none⟩ = some (.int .i64 a1_2) := (blk_cell BK345.out 2).trans rfl
          have hfz49_0 := blk_frozen BK345.out 0
          have hfz49_1 := blk_frozen BK345.out 1
          have hfz49_2 := blk_frozen BK345.out 2
          go_wp2_with (first | ((with_reducible refine gate_callee (f := 46) rfl ?_); refine goesL_ (some 58) rfl rfl Tryd.func46 (by kernel_rfl) rfl #[.agg #[.int .i64 a0_0, .int .i64 a0_1, .int .i64 a0_2, .int .i64 a0_3, .int .i64 a0_4, .int .i64 a0_5, .bool a0_6], .agg #[.int .i64 a1_0, .int .i64 a1_1, .int .i64 a1_2]] rfl (by (try simp only [List.map_toArray, List.map_cons, List.map_nil]); first | done | rfl | (simp only [List.length_drop, List.length_take]; rfl)) ?_; (with_reducible refine (bonus_KeepsBox.calls kj6 a0_0 a0_1 a0_2 a0_3 a0_4 a0_5 a0_6 a1_0 a1_1 a1_2 t354 t355 _ A27.out (by exact sig_below HS.out (by repeat (first | (with_reducible first | exact HB.out | apply below_alloc | apply pw_below_drewN | apply below_drew1 | refine below_set ?_ GE344.out | refine below_set ?_ GE345.out) | exact HB.out)))).mono ?_); rintro e w50 ⟨rfl, hb⟩; refine ⟨_, rfl, ?_⟩; have n0_ := Aside0.mk (blk_below (g := gb344) (o := .cells #[.int .i64 a0_0, .int .i64 a0_1, .int .i64 a0_2, .int .i64 a0_3, .int .i64 a0_4, .int .i64 a0_5, .bool a0_6] 27 (0, 0)) (by (with_reducible repeat (first | refine blk_drewN ?_ _ | refine blk_drew ?_ | refine blk_alloc ?_ _)); exact BK344.out) hb); have n1_ := Aside0.mk (blk_below (g := gb345) (o := .cells #[.int .i64 a1_0, .int .i64 a1_1, .int .i64 a1_2] 68 (0, 0)) (by (with_reducible repeat (first | refine blk_drewN ?_ _ | refine blk_drew ?_ | refine blk_alloc ?_ _)); exact BK345.out) hb); have n2_ := Aside0.mk (below_step (by repeat (first | (with_reducible first | exact HB.out | apply below_alloc | apply pw_below_drewN | apply below_drew1 | refine below_set ?_ GE344.out | refine below_set ?_ GE345.out) | exact HB.out)) hb); clear BK344; clear BK345; clear HB; have BK344 := n0_; have BK345 := n1_; have HB := n2_; clear n0_ n1_ n2_; (try clear hb); (try clear hb2); (try clear hk); (try clear hi); have hcz51_0 : w50.cell? ⟨gb344, 0, none⟩ = some (.int .i64 a0_0) := (blk_cell BK344.out 0).trans rfl; have hcz51_1 : w50.cell? ⟨gb344, 1, none⟩ = some (.int .i64 a0_1) := (blk_cell BK344.out 1).trans rfl; have hcz51_2 : w50.cell? ⟨gb344, 2, none⟩ = some (.int .i64 a0_2) := (blk_cell BK344.out 2).trans rfl; have hcz51_3 : w50.cell? ⟨gb344, 3, none⟩ = some (.int .i64 a0_3) := (blk_cell BK344.out 3).trans rfl; have hcz51_4 : w50.cell? ⟨gb344, 4, none⟩ = some (.int .i64 a0_4) := (blk_cell BK344.out 4).trans rfl; have hcz51_5 : w50.cell? ⟨gb344, 5, none⟩ = some (.int .i64 a0_5) := (blk_cell BK344.out 5).trans rfl; have hcz51_6 : w50.cell? ⟨gb344, 6, none⟩ = some (.bool a0_6) := (blk_cell BK344.out 6).trans rfl; have hfz51_0 := blk_frozen BK344.out 0; have hfz51_1 := blk_frozen BK344.out 1; have hfz51_2 := blk_frozen BK344.out 2; have hfz51_3 := blk_frozen BK344.out 3; have hfz51_4 := blk_frozen BK344.out 4; have hfz51_5 := blk_frozen BK344.out 5; have hfz51_6 := blk_frozen BK344.out 6; have hcz52_0 : w50.cell? ⟨gb345, 0, none⟩ = some (.int .i64 a1_0) := (blk_cell BK345.out 0).trans rfl; have hcz52_1 : w50.cell? ⟨gb345, 1, none⟩ = some (.int .i64 a1_1) := (blk_cell BK345.out 1).trans rfl; have hcz52_2 : w50.cell? ⟨gb345, 2, none⟩ = some (.int .i64 a1_2) := (blk_cell BK345.out 2).trans rfl; have hfz52_0 := blk_frozen BK345.out 0; have hfz52_1 := blk_frozen BK345.out 1; have hfz52_2 := blk_frozen BK345.out 2) | ((with_reducible refine gate_callee (f := 49) rfl ?_); refine goesL_ (some 64) rfl rfl Tryd.func49 (by kernel_rfl) rfl #[.agg #[.int .i64 a0_0, .int .i64 a0_1, .int .i64 a0_2, .int .i64 a0_3, .int .i64 a0_4, .int .i64 a0_5, .bool a0_6], .agg #[.int .i64 a1_0, .int .i64 a1_1, .int .i64 a1_2]] rfl (by (try simp only [List.map_toArray, List.map_cons, List.map_nil]); first | done | rfl | (simp only [List.length_drop, List.length_take]; rfl)) ?_; (with_reducible refine (metrolabref44_KeepsBox.calls kj6 a0_0 a0_1 a0_2 a0_3 a0_4 a0_5 a0_6 a1_0 a1_1 a1_2 t356 t357 _ A28.out).mono ?_); rintro e w53 ⟨rfl, hb⟩; refine ⟨_, rfl, ?_⟩; have n0_ := Aside0.mk (blk_below (g := gb344) (o := .cells #[.int .i64 a0_0, .int .i64 a0_1, .int .i64 a0_2, .int .i64 a0_3, .int .i64 a0_4, .int .i64 a0_5, .bool a0_6] 27 (0, 0)) (by (with_reducible repeat (first | refine blk_drewN ?_ _ | refine blk_drew ?_ | refine blk_alloc ?_ _)); exact BK344.out) hb); have n1_ := Aside0.mk (blk_below (g := gb345) (o := .cells #[.int .i64 a1_0, .int .i64 a1_1, .int .i64 a1_2] 68 (0, 0)) (by (with_reducible repeat (first | refine blk_drewN ?_ _ | refine blk_drew ?_ | refine blk_alloc ?_ _)); exact BK345.out) hb); have n2_ := Aside0.mk (below_step (by repeat (first | (with_reducible first | exact HB.out | apply below_alloc | apply pw_below_drewN | apply below_drew1 | refine below_set ?_ GE344.out | refine below_set ?_ GE345.out) | exact HB.out)) hb); clear BK344; clear BK345; clear HB; have BK344 := n0_; have BK345 := n1_; have HB := n2_; clear n0_ n1_ n2_; (try clear hb); (try clear hb2); (try clear hk); (try clear hi)))
          go_ret
          exact ⟨by first | rfl | (simp [errW_none, errW_some] <;> rfl) | (simp [*, errW_none, errW_some] <;> rfl), by repeat (first | (with_reducible first | exact HB.out | apply below_alloc | apply pw_below_drewN | apply below_drew1 | refine below_set ?_ GE344.out | refine below_set ?_ GE345.out) | exact HB.out)⟩

end Go.Proofs.YtjemaonejkepcaaDoor.B
