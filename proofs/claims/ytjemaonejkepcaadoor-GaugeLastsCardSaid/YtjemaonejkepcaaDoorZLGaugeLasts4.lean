/- Texts of the law GaugeLasts, laid together by a program of this session; what is not reached is cut. In it: words that the kit's print.sh printed, contracts of Go functions printed over the kit's printer, our own laws. Not trusted: Lean checks them. -/
import Derived.Test.YtjemaonejkepcaaDoorZLGaugeLasts3
namespace Go.Proofs.YtjemaonejkepcaaDoor.G
open Go.Proofs.YtjemaonejkepcaaDoor.B
open Go.RowKit Go.Proofs.YtjemaonejkepcaaDoorW.PrintWords Go.Proofs.YtjemaonejkepcaaDoorW.PrintLast Go.Proofs.YtjemaonejkepcaaDoorW.PrintMore
attribute [local go_sem] max2_int min2_int max_two min_two max_three min_three max_four min_four   -- for this text's walks alone
set_option linter.unusedVariables false
set_option linter.unusedSimpArgs false
attribute [local go_sem high] eqA25
def metrolablaw47_Pair.f  : Option ((List (S27))) := some (([(⟨(⟨0, 0⟩ : S23), (⟨100, 110⟩ : S25), 8, 1, false⟩ : S27), (⟨(⟨500, 0⟩ : S23), (⟨50, 60⟩ : S25), 4, 1, true⟩ : S27)] : List (S27)))
set_option maxHeartbeats 8000000 in
set_option maxRecDepth 100000 in
theorem metrolablaw47_Pair.calls  (r : List (S27)) (w : World) (h : metrolablaw47_Pair.f  = some r) :
    Calls Tryd.prog 79 #[] w fun e w' => ∃ v0_ : Value, e = .returned (v0_) ∧ Kd.R k27 27 w' w.heap.size (fun _ => True) v0_ r ∧ Below w.heap.size w w' := by
  have hu25 := Tryd.underlying25
  have hu27 := Tryd.underlying27
  have hu23 := Tryd.underlying23
  have HB := Aside0.mk (Below.refl w.heap.size w)
  have H : (some (([(⟨(⟨0, 0⟩ : S23), (⟨100, 110⟩ : S25), 8, 1, false⟩ : S27), (⟨(⟨500, 0⟩ : S23), (⟨50, 60⟩ : S25), 4, 1, true⟩ : S27)] : List (S27)))) = some r := h
  clear h
  obtain ⟨y170, hy170⟩ : ∃ y_ : List (S27), y_ = (([(⟨(⟨0, 0⟩ : S23), (⟨100, 110⟩ : S25), 8, 1, false⟩ : S27), (⟨(⟨500, 0⟩ : S23), (⟨50, 60⟩ : S25), 4, 1, true⟩ : S27)] : List (S27))) := ⟨_, rfl⟩
  replace H : (some y170) = some r := by first | (rw [hy170]; with_reducible exact H) | (have H2_ := (Option.bind_some _ _).symm.trans H; rw [hy170]; with_reducible exact H2_) | (have H2_ := (Option.bind_some _ _).symm.trans H; with_reducible exact H2_) | with_reducible exact H | (rw [hy170]; exact H) | exact H
  have Ny170 := Aside0.mk hy170
  clear hy170
  obtain rfl := Option.some.inj H
  go_enter Tryd.func79, Tryd.ntmps79
  go_wp2_with (first | ((with_reducible refine gate_dst (N := 6) rfl ?_); refine Kd.R_lit k27 _ 27 ?hg (N := 6) ?hd (xs := ([(⟨(⟨0, 0⟩ : S23), (⟨100, 110⟩ : S25), 8, 1, false⟩ : S27), (⟨(⟨500, 0⟩ : S23), (⟨50, 60⟩ : S25), 4, 1, true⟩ : S27)] : List (S27))) (inner := [.int .i64 0, .int .i64 0, .int .i64 100, .int .i64 110, .int .i64 8, .int .i64 1, .bool false, .int .i64 500, .int .i64 0, .int .i64 50, .int .i64 60, .int .i64 4, .int .i64 1, .bool true]) (ok := fun _ => True) (okp := fun _ => True) ?hr ?hp (fun _ hk => hk) trivial (Below.refl _ _) (Nat.le_refl _) (by simp) ?_; (case hd => rfl); (case hg => rfl); (case hr => first | (go_simp; done) | (go_simp; rfl)); (case hp => exact (Reps.c7 (show Kd.M k27 _ _ _ (⟨(⟨0, 0⟩ : S23), (⟨100, 110⟩ : S25), 8, 1, false⟩ : S27) [.int .i64 0, .int .i64 0, .int .i64 100, .int .i64 110, .int .i64 8, .int .i64 1, .bool false] from (k27_mkM _ _ _ (⟨(⟨0, 0⟩ : S23), (⟨100, 110⟩ : S25), 8, 1, false⟩ : S27) )) (Reps.c7 (show Kd.M k27 _ _ _ (⟨(⟨500, 0⟩ : S23), (⟨50, 60⟩ : S25), 4, 1, true⟩ : S27) [.int .i64 500, .int .i64 0, .int .i64 50, .int .i64 60, .int .i64 4, .int .i64 1, .bool true] from (k27_mkM _ _ _ (⟨(⟨500, 0⟩ : S23), (⟨50, 60⟩ : S25), 4, 1, true⟩ : S27) )) (Reps.none _ _)))); intro v171 w1 ho2 hb hg_ hnew_; clear hg_ hnew_; (first | rw [← Ny170.out] at ho2 | (simp only [Int.reduceToNat] at ho2; rw [← Ny170.out] at ho2)); have n0_ := Aside0.mk (Kd.R_lower ho2 (below_size (by repeat (first | (with_reducible first | exact HB.out | apply below_alloc | apply pw_below_drewN | apply below_drew1) | exact HB.out)))); have n1_ := Aside0.mk (below_step (by repeat (first | (with_reducible first | exact HB.out | apply below_alloc | apply pw_below_drewN | apply below_drew1) | exact HB.out)) hb); clear HB; have HO172 := n0_; have HB := n1_; clear n0_ n1_; clear hb ho2))
  go_ret
  exact ⟨_, by first | rfl | (simp [errW_none, errW_some] <;> rfl) | (simp [*, errW_none, errW_some] <;> rfl), by (with_reducible repeat (first | apply Kd.R_alloc | apply Kd.R_drewN | apply Kd.R_drew)); exact HO172.out, by repeat (first | (with_reducible first | exact HB.out | apply below_alloc | apply pw_below_drewN | apply below_drew1) | exact HB.out)⟩
mutual
def metrolablaw47_awake.j0 : Nat → List (S27) → List (S104) → Bool → Option (Bool)
  | 0, _, _, _ => none
  | k + 1, x1, x2, x50 => if x50 = true then (some false) else ((gauge_Loss.f k x1 x2).bind fun bt184 => ((gauge_Made.f k x2 true).bind fun bt186 => (if bt184.2 = 0 then (if bt186.2 = 0 then (if bt184.1 = 5 then ((gauge_Safe.f k x1 x2).bind fun t190 => (if t190 = 0 then (metrolablaw47_awake.j1 k x1 bt186.1 ((bt186.1.length : Int) != 2)) else (metrolablaw47_awake.j1 k x1 bt186.1 true))) else (metrolablaw47_awake.j1 k x1 bt186.1 true)) else (metrolablaw47_awake.j1 k x1 bt186.1 true)) else (metrolablaw47_awake.j1 k x1 bt186.1 true))))
def metrolablaw47_awake.j1 : Nat → List (S27) → List (S56) → Bool → Option (Bool)
  | 0, _, _, _ => none
  | k + 1, x1, x5, x82 => if x82 = true then (some false) else (if 0 < (x5.length : Int) then ((some (x5.set (0 : Int).toNat (⟨(⟨(rd_T56 x5 0).f0.f0, (rd_T56 x5 0).f0.f1⟩ : S23), (rd_T56 x5 0).f1, 91⟩ : S56) : List (S56))).bind fun y191 => (if 1 < (x5.length : Int) then ((gauge_Worn.f k x1 (y191.set (1 : Int).toNat (⟨(⟨(rd_T56 y191 1).f0.f0, (rd_T56 y191 1).f0.f1⟩ : S23), (rd_T56 y191 1).f1, 64⟩ : S56))).bind fun bt193 => (if bt193.2 = 0 then ((slices_Equal_int_int.f k bt193.1 (([0] : List Int))).bind fun t200 => (some t200)) else (some false))) else (none))) else (none))
end
def metrolablaw47_awake.f (k : Nat)  : Option (Bool) := (metrolablaw47_Pair.f).bind fun t173 => ((gauge_Design.f k t173 2 3).bind fun bt176 => (if bt176.2 = 0 then (if (bt176.1.length : Int) = 2 then (if 0 < (bt176.1.length : Int) then (if (!(((rd_T104 bt176.1 0).f2.f0) == 94) || (!(((rd_T104 bt176.1 0).f2.f1) == 97))) = true then (metrolablaw47_awake.j0 k t173 bt176.1 true) else (if (rd_T104 bt176.1 0).f1 = true then (metrolablaw47_awake.j0 k t173 bt176.1 true) else (if 1 < (bt176.1.length : Int) then (if (!(((rd_T104 bt176.1 1).f2.f0) == 59) || (!(((rd_T104 bt176.1 1).f2.f1) == 62))) = true then (metrolablaw47_awake.j0 k t173 bt176.1 true) else (metrolablaw47_awake.j0 k t173 bt176.1 (!((rd_T104 bt176.1 1).f1)))) else (none)))) else (none)) else (metrolablaw47_awake.j0 k t173 bt176.1 true)) else (metrolablaw47_awake.j0 k t173 bt176.1 true)))
theorem metrolablaw47_awake.mono_l : ∀ k, (∀ y0 y1 y2, LeO (metrolablaw47_awake.j0 k y0 y1 y2) (metrolablaw47_awake.j0 (k + 1) y0 y1 y2)) ∧ (∀ y0 y1 y2, LeO (metrolablaw47_awake.j1 k y0 y1 y2) (metrolablaw47_awake.j1 (k + 1) y0 y1 y2))
  | 0 => ⟨fun _ _ _ r h => by simp [metrolablaw47_awake.j0] at h, fun _ _ _ r h => by simp [metrolablaw47_awake.j1] at h⟩
  | k + 1 => by
    obtain ⟨ih0, ih1⟩ := metrolablaw47_awake.mono_l k
    refine ⟨?_, ?_⟩
    · intro y0 y1 y2
      unfold metrolablaw47_awake.j0
      repeat' first
      | (with_reducible exact ih0 _ _ _)
      | (with_reducible exact ih1 _ _ _)
      | (with_reducible exact gauge_Design.mono _ _ _ _)
      | (with_reducible exact gauge_Loss.mono _ _ _)
      | (with_reducible exact gauge_Made.mono _ _ _)
      | (with_reducible exact gauge_Safe.mono _ _ _)
      | (with_reducible exact gauge_Worn.mono _ _ _)
      | (with_reducible exact slices_Equal_int_int.mono _ _ _)
      | (with_reducible exact LeO.refl _)
      | (with_reducible exact LeO.none _)
      | (with_reducible refine LeO.ite ?_ ?_)
      | (with_reducible refine LeO.bind ?_ (fun _ => ?_))
      | exact ih0 _ _ _
      | exact ih1 _ _ _
      | exact gauge_Design.mono _ _ _ _
      | exact gauge_Loss.mono _ _ _
      | exact gauge_Made.mono _ _ _
      | exact gauge_Safe.mono _ _ _
      | exact gauge_Worn.mono _ _ _
      | exact slices_Equal_int_int.mono _ _ _
      | exact LeO.none _
      | refine LeO.ite ?_ ?_
      | refine LeO.bind ?_ (fun _ => ?_)
    · intro y0 y1 y2
      unfold metrolablaw47_awake.j1
      repeat' first
      | (with_reducible exact ih0 _ _ _)
      | (with_reducible exact ih1 _ _ _)
      | (with_reducible exact gauge_Design.mono _ _ _ _)
      | (with_reducible exact gauge_Loss.mono _ _ _)
      | (with_reducible exact gauge_Made.mono _ _ _)
      | (with_reducible exact gauge_Safe.mono _ _ _)
      | (with_reducible exact gauge_Worn.mono _ _ _)
      | (with_reducible exact slices_Equal_int_int.mono _ _ _)
      | (with_reducible exact LeO.refl _)
      | (with_reducible exact LeO.none _)
      | (with_reducible refine LeO.ite ?_ ?_)
      | (with_reducible refine LeO.bind ?_ (fun _ => ?_))
      | exact ih0 _ _ _
      | exact ih1 _ _ _
      | exact gauge_Design.mono _ _ _ _
      | exact gauge_Loss.mono _ _ _
      | exact gauge_Made.mono _ _ _
      | exact gauge_Safe.mono _ _ _
      | exact gauge_Worn.mono _ _ _
      | exact slices_Equal_int_int.mono _ _ _
      | exact LeO.none _
      | refine LeO.ite ?_ ?_
      | refine LeO.bind ?_ (fun _ => ?_)
theorem metrolablaw47_awake.mono : ∀ k, LeO (metrolablaw47_awake.f k ) (metrolablaw47_awake.f (k + 1) ) := by
  intro  k
  obtain ⟨ih0, ih1⟩ := metrolablaw47_awake.mono_l k
  unfold metrolablaw47_awake.f
  repeat' first
      | (with_reducible exact ih0 _ _ _)
      | (with_reducible exact ih1 _ _ _)
      | (with_reducible exact gauge_Design.mono _ _ _ _)
      | (with_reducible exact gauge_Loss.mono _ _ _)
      | (with_reducible exact gauge_Made.mono _ _ _)
      | (with_reducible exact gauge_Safe.mono _ _ _)
      | (with_reducible exact gauge_Worn.mono _ _ _)
      | (with_reducible exact slices_Equal_int_int.mono _ _ _)
      | (with_reducible exact LeO.refl _)
      | (with_reducible exact LeO.none _)
      | (with_reducible refine LeO.ite ?_ ?_)
      | (with_reducible refine LeO.bind ?_ (fun _ => ?_))
      | exact ih0 _ _ _
      | exact ih1 _ _ _
      | exact gauge_Design.mono _ _ _ _
      | exact gauge_Loss.mono _ _ _
      | exact gauge_Made.mono _ _ _
      | exact gauge_Safe.mono _ _ _
      | exact gauge_Worn.mono _ _ _
      | exact slices_Equal_int_int.mono _ _ _
      | exact LeO.none _
      | refine LeO.ite ?_ ?_
      | refine LeO.bind ?_ (fun _ => ?_)
set_option maxHeartbeats 8000000 in
set_option maxRecDepth 100000 in
theorem metrolablaw47_awake.calls (k : Nat)  (r : Bool) (w : World) (h : metrolablaw47_awake.f k  = some r) (hS : SignsAt w) :
    Calls Tryd.prog 30 #[] w fun e w' => e = .returned (.bool r) ∧ Below w.heap.size w w' := by
  have HS := Aside0.mk hS
  clear hS
  have hu44 := Tryd.underlying44
  have hu25 := Tryd.underlying25
  have HB := Aside0.mk (Below.refl w.heap.size w)
  have H : ((metrolablaw47_Pair.f).bind fun t173 => ((gauge_Design.f k t173 2 3).bind fun bt176 => (if bt176.2 = 0 then (if (bt176.1.length : Int) = 2 then (if 0 < (bt176.1.length : Int) then (if (!(((rd_T104 bt176.1 0).f2.f0) == 94) || (!(((rd_T104 bt176.1 0).f2.f1) == 97))) = true then (metrolablaw47_awake.j0 k t173 bt176.1 true) else (if (rd_T104 bt176.1 0).f1 = true then (metrolablaw47_awake.j0 k t173 bt176.1 true) else (if 1 < (bt176.1.length : Int) then (if (!(((rd_T104 bt176.1 1).f2.f0) == 59) || (!(((rd_T104 bt176.1 1).f2.f1) == 62))) = true then (metrolablaw47_awake.j0 k t173 bt176.1 true) else (metrolablaw47_awake.j0 k t173 bt176.1 (!((rd_T104 bt176.1 1).f1)))) else (none)))) else (none)) else (metrolablaw47_awake.j0 k t173 bt176.1 true)) else (metrolablaw47_awake.j0 k t173 bt176.1 true)))) = some r := h
  clear h
  replace H := Option.bind_eq_some_iff.mp H
  obtain ⟨t173, A10, H⟩ := H
  replace H : ((gauge_Design.f k t173 2 3).bind fun bt176 => (if bt176.2 = 0 then (if (bt176.1.length : Int) = 2 then (if 0 < (bt176.1.length : Int) then (if (!(((rd_T104 bt176.1 0).f2.f0) == 94) || (!(((rd_T104 bt176.1 0).f2.f1) == 97))) = true then (metrolablaw47_awake.j0 k t173 bt176.1 true) else (if (rd_T104 bt176.1 0).f1 = true then (metrolablaw47_awake.j0 k t173 bt176.1 true) else (if 1 < (bt176.1.length : Int) then (if (!(((rd_T104 bt176.1 1).f2.f0) == 59) || (!(((rd_T104 bt176.1 1).f2.f1) == 62))) = true then (metrolablaw47_awake.j0 k t173 bt176.1 true) else (metrolablaw47_awake.j0 k t173 bt176.1 (!((rd_T104 bt176.1 1).f1)))) else (none)))) else (none)) else (metrolablaw47_awake.j0 k t173 bt176.1 true)) else (metrolablaw47_awake.j0 k t173 bt176.1 true))) = some r := H
  have A1 := Aside0.mk A10
  clear A10
  replace H := Option.bind_eq_some_iff.mp H
  obtain ⟨⟨t176, t179⟩, A20, H⟩ := H
  replace H : (if t179 = 0 then (if (t176.length : Int) = 2 then (if 0 < (t176.length : Int) then (if (!(((rd_T104 t176 0).f2.f0) == 94) || (!(((rd_T104 t176 0).f2.f1) == 97))) = true then (metrolablaw47_awake.j0 k t173 t176 true) else (if (rd_T104 t176 0).f1 = true then (metrolablaw47_awake.j0 k t173 t176 true) else (if 1 < (t176.length : Int) then (if (!(((rd_T104 t176 1).f2.f0) == 59) || (!(((rd_T104 t176 1).f2.f1) == 62))) = true then (metrolablaw47_awake.j0 k t173 t176 true) else (metrolablaw47_awake.j0 k t173 t176 (!((rd_T104 t176 1).f1)))) else (none)))) else (none)) else (metrolablaw47_awake.j0 k t173 t176 true)) else (metrolablaw47_awake.j0 k t173 t176 true)) = some r := H
  have A2 := Aside0.mk A20
  clear A20
  have HC3 := Aside0.mk H
  clear H
  go_enter Tryd.func30, Tryd.ntmps30
  go_upto_region 3 with (first | ((with_reducible refine gate_callee (f := 79) rfl ?_); refine goesL_ (some 8) rfl rfl Tryd.func79 (by kernel_rfl) rfl #[] rfl (by (try simp only [List.map_toArray, List.map_cons, List.map_nil]); first | done | rfl | (simp only [List.length_drop, List.length_take]; rfl)) ?_; (with_reducible refine (metrolablaw47_Pair.calls  t173 _ A1.out).mono ?_); rintro e w4 ⟨v174, rfl, ho0, hb⟩; refine ⟨_, rfl, ?_⟩; have n0_ := Aside0.mk (Kd.R_lower ho0 (below_size (by repeat (first | (with_reducible first | exact HB.out | apply below_alloc | apply pw_below_drewN | apply below_drew1) | exact HB.out)))); have n1_ := Aside0.mk (below_step (by repeat (first | (with_reducible first | exact HB.out | apply below_alloc | apply pw_below_drewN | apply below_drew1) | exact HB.out)) hb); clear HB; have HO175 := n0_; have HB := n1_; clear n0_ n1_; (try clear hb); (try clear hb2); (try clear hk); (try clear hi); (try clear ho0); obtain ⟨Ao5, co5, eo5⟩ := Kd.R_slice HO175.out; subst eo5) | ((with_reducible refine gate_callee (f := 31) rfl ?_); refine goesL_ (some 12) rfl rfl Tryd.func31 (by kernel_rfl) rfl #[.slice Ao5 t173.length co5, .agg #[.int .i64 2, .int .i64 3]] rfl (by (try simp only [List.map_toArray, List.map_cons, List.map_nil]); first | done | rfl | (simp only [List.length_drop, List.length_take]; rfl)) ?_; (with_reducible refine (gauge_Design.calls k _ _ t173 2 3 t176 t179 _ ?side1 ?side2 A2.out (by exact sig_below HS.out (by repeat (first | (with_reducible first | exact HB.out | apply below_alloc | apply pw_below_drewN | apply below_drew1 | fail) | exact HB.out)))).mono ?_); (case side1 => repeat (first | exact (Kd.R_reads' HO175.out).2.2 | (with_reducible refine Kd.C_alloc ?_ _) | (with_reducible refine Kd.C_drewN ?_ _) | (with_reducible refine Kd.C_drew ?_))); (case side2 => exact (Kd.R_reads' HO175.out).2.1); rintro e w6 ⟨v177, rfl, ho0, hb⟩; refine ⟨_, rfl, ?_⟩; have n0_ := Aside0.mk (Kd.R_below (by (with_reducible repeat (first | apply Kd.R_alloc | apply Kd.R_drewN | apply Kd.R_drew)); exact HO175.out) hb); have n1_ := Aside0.mk (Kd.R_lower ho0 (below_size (by repeat (first | (with_reducible first | exact HB.out | apply below_alloc | apply pw_below_drewN | apply below_drew1) | exact HB.out)))); have n2_ := Aside0.mk (below_step (by repeat (first | (with_reducible first | exact HB.out | apply below_alloc | apply pw_below_drewN | apply below_drew1) | exact HB.out)) hb); clear HO175; clear HB; have HO175 := n0_; have HO178 := n1_; have HB := n2_; clear n0_ n1_ n2_; (try clear hb); (try clear hb2); (try clear hk); (try clear hi); (try clear ho0)))
  (try simp only [Act.put, List.setIfInBounds_toArray, List.set_cons_zero, List.set_cons_succ])
  go_cut [50] (fun v50 wc => ∃ (kq : Nat) (x50_2 : Bool), v50 = .bool x50_2 ∧ Aside0 (metrolablaw47_awake.j0 kq t173 t176 x50_2 = some r) ∧ Aside0 (kq ≤ k) ∧ Aside0 (Kd.R k27 27 wc w.heap.size (fun _ => True) (.slice Ao5 t173.length co5) t173) ∧ Aside0 (Kd.R k104 104 wc w.heap.size (fun _ => True) v177 t176) ∧ Aside0 (Below w.heap.size w wc))
  case first =>
    have H := HC3.out
    clear HC3
    by_cases c7 : t179 = 0
    · rw [if_pos c7] at H
      have c7b0 : (t179 == 0) = true := beq_iff_eq.mpr c7
      have c7b1 : (t179 != 0) = false := bne_eq_false_iff_eq.mpr c7
      clear c7
      (first | rw [c7b0] | (simp only [i64_w, i32_w]; rw [c7b0]) | skip)
      by_cases c8 : (t176.length : Int) = 2
      · rw [if_pos c8] at H
        have c8b0 : ((t176.length : Int) == 2) = true := beq_iff_eq.mpr c8
        have c8b1 : ((t176.length : Int) != 2) = false := bne_eq_false_iff_eq.mpr c8
        clear c8
        by_cases c9 : 0 < (t176.length : Int)
        · rw [if_pos c9] at H
          have c9b0 : decide (0 < (t176.length : Int)) = true := decide_eq_true c9
          have c9b1 : decide (0 < t176.length) = true := decide_eq_true (by omega)
          clear c9
          by_cases c10 : (!(((rd_T104 t176 0).f2.f0) == 94) || (!(((rd_T104 t176 0).f2.f1) == 97))) = true
          · rw [if_pos c10] at H
            have c10b0 : (!(((rd_T104 t176 0).f2.f0) == 94) || (!(((rd_T104 t176 0).f2.f1) == 97))) = true := c10
            clear c10
            have H' := Aside0.mk H
            clear H
            obtain ⟨Ao11, co11, eo11⟩ := Kd.R_slice HO178.out
            subst eo11
            have p180 : 0 ≤ (0 : Int) := (by omega)
            have q180 : 0 < (t176.length : Int) := of_decide_eq_true (by first | (with_reducible assumption) | assumption)
            obtain ⟨ad180, e180, hx180_0, hx180_1, hx180_2, hx180_3, hx180_4⟩ := at_T104 (Kd.R_reads' HO178.out).2.2 0 p180 q180
            cases e180
            have qi180 : (0 < t176.length) = True := eq_true (by omega)
            (try rw [show ((0 : Int)).toNat = 0 from rfl] at hx180_0)
            (try rw [show 0 * 5 = 0 from rfl] at hx180_0)
            (try rw [Addr.add_zero'] at hx180_0)
            (try rw [show ((0 : Int)).toNat = 0 from rfl] at hx180_1)
            (try rw [show 0 * 5 = 0 from rfl] at hx180_1)
            (try rw [Addr.add_zero'] at hx180_1)
            (try rw [show ((0 : Int)).toNat = 0 from rfl] at hx180_2)
            (try rw [show 0 * 5 = 0 from rfl] at hx180_2)
            (try rw [Addr.add_zero'] at hx180_2)
            (try rw [show ((0 : Int)).toNat = 0 from rfl] at hx180_3)
            (try rw [show 0 * 5 = 0 from rfl] at hx180_3)
            (try rw [Addr.add_zero'] at hx180_3)
            (try rw [show ((0 : Int)).toNat = 0 from rfl] at hx180_4)
            (try rw [show 0 * 5 = 0 from rfl] at hx180_4)
            (try rw [Addr.add_zero'] at hx180_4)
            replace p180 := eq_true p180
            replace q180 := eq_true q180
            go_wp2
            go_meet
            case rel => exact ⟨_, (true), (by first | rfl | (simp; done) | (simp [*]; done)), H', ⟨by first | omega | exact Nat.le_refl _⟩, ⟨by (with_reducible repeat (first | apply Kd.R_alloc | apply Kd.R_drewN | apply Kd.R_drew)); exact HO175.out⟩, ⟨by (with_reducible repeat (first | apply Kd.R_alloc | apply Kd.R_drewN | apply Kd.R_drew)); exact HO178.out⟩, ⟨by repeat (first | (with_reducible first | exact HB.out | apply below_alloc | apply pw_below_drewN | apply below_drew1) | exact HB.out)⟩⟩
          · rw [if_neg c10] at H
            have c10b0 : (!(((rd_T104 t176 0).f2.f0) == 94) || (!(((rd_T104 t176 0).f2.f1) == 97))) = false := by simpa using c10
            clear c10
            obtain ⟨bq12, hbq12⟩ : ∃ b_ : Bool, b_ = ((rd_T104 t176 0).f1) := ⟨_, rfl⟩
            replace H : (if bq12 = true then (metrolablaw47_awake.j0 k t173 t176 true) else (if 1 < (t176.length : Int) then (if (!(((rd_T104 t176 1).f2.f0) == 59) || (!(((rd_T104 t176 1).f2.f1) == 62))) = true then (metrolablaw47_awake.j0 k t173 t176 true) else (metrolablaw47_awake.j0 k t173 t176 (!((rd_T104 t176 1).f1)))) else (none))) = some r := by rw [← hbq12] at H; exact H
            have Nbq12 := Aside0.mk hbq12
            clear hbq12
            by_cases c13 : bq12 = true
            · subst c13
              have H1 : (metrolablaw47_awake.j0 k t173 t176 true) = some r := by rw [if_pos rfl] at H; exact H
              clear H
              have H := H1
              clear H1
              have H' := Aside0.mk H
              clear H
              obtain ⟨Ao14, co14, eo14⟩ := Kd.R_slice HO178.out
              subst eo14
              have p180 : 0 ≤ (0 : Int) := (by omega)
              have q180 : 0 < (t176.length : Int) := of_decide_eq_true (by first | (with_reducible assumption) | assumption)
              obtain ⟨ad180, e180, hx180_0, hx180_1, hx180_2, hx180_3, hx180_4⟩ := at_T104 (Kd.R_reads' HO178.out).2.2 0 p180 q180
              (try rw [← Nbq12.out] at hx180_2)
              cases e180
              have qi180 : (0 < t176.length) = True := eq_true (by omega)
              (try rw [show ((0 : Int)).toNat = 0 from rfl] at hx180_0)
              (try rw [show 0 * 5 = 0 from rfl] at hx180_0)
              (try rw [Addr.add_zero'] at hx180_0)
              (try rw [show ((0 : Int)).toNat = 0 from rfl] at hx180_1)
              (try rw [show 0 * 5 = 0 from rfl] at hx180_1)
              (try rw [Addr.add_zero'] at hx180_1)
              (try rw [show ((0 : Int)).toNat = 0 from rfl] at hx180_2)
              (try rw [show 0 * 5 = 0 from rfl] at hx180_2)
              (try rw [Addr.add_zero'] at hx180_2)
              (try rw [show ((0 : Int)).toNat = 0 from rfl] at hx180_3)
              (try rw [show 0 * 5 = 0 from rfl] at hx180_3)
              (try rw [Addr.add_zero'] at hx180_3)
              (try rw [show ((0 : Int)).toNat = 0 from rfl] at hx180_4)
              (try rw [show 0 * 5 = 0 from rfl] at hx180_4)
              (try rw [Addr.add_zero'] at hx180_4)
              replace p180 := eq_true p180
              replace q180 := eq_true q180
              have p181 : 0 ≤ (0 : Int) := (by omega)
              have q181 : 0 < (t176.length : Int) := of_decide_eq_true (by first | (with_reducible assumption) | assumption)
              obtain ⟨ad181, e181, hx181_0, hx181_1, hx181_2, hx181_3, hx181_4⟩ := at_T104 (Kd.R_reads' HO178.out).2.2 0 p181 q181
              (try rw [← Nbq12.out] at hx181_2)
              obtain rfl : ad180 = ad181 := (by injection e181)
              have qi181 : (0 < t176.length) = True := eq_true (by omega)
              (try rw [show ((0 : Int)).toNat = 0 from rfl] at hx181_0)
              (try rw [show 0 * 5 = 0 from rfl] at hx181_0)
              (try rw [Addr.add_zero'] at hx181_0)
              (try rw [show ((0 : Int)).toNat = 0 from rfl] at hx181_1)
              (try rw [show 0 * 5 = 0 from rfl] at hx181_1)
              (try rw [Addr.add_zero'] at hx181_1)
              (try rw [show ((0 : Int)).toNat = 0 from rfl] at hx181_2)
              (try rw [show 0 * 5 = 0 from rfl] at hx181_2)
              (try rw [Addr.add_zero'] at hx181_2)
              (try rw [show ((0 : Int)).toNat = 0 from rfl] at hx181_3)
              (try rw [show 0 * 5 = 0 from rfl] at hx181_3)
              (try rw [Addr.add_zero'] at hx181_3)
              (try rw [show ((0 : Int)).toNat = 0 from rfl] at hx181_4)
              (try rw [show 0 * 5 = 0 from rfl] at hx181_4)
              (try rw [Addr.add_zero'] at hx181_4)
              replace p181 := eq_true p181
              replace q181 := eq_true q181
              go_wp2
              go_meet
              case rel => exact ⟨_, (true), (by first | rfl | (simp; done) | (simp [*]; done)), H', ⟨by first | omega | exact Nat.le_refl _⟩, ⟨by (with_reducible repeat (first | apply Kd.R_alloc | apply Kd.R_drewN | apply Kd.R_drew)); exact HO175.out⟩, ⟨by (with_reducible repeat (first | apply Kd.R_alloc | apply Kd.R_drewN | apply Kd.R_drew)); exact HO178.out⟩, ⟨by repeat (first | (with_reducible first | exact HB.out | apply below_alloc | apply pw_below_drewN | apply below_drew1) | exact HB.out)⟩⟩
            · replace c13 := Bool.eq_false_iff.mpr c13
              subst c13
              have H1 : (if 1 < (t176.length : Int) then (if (!(((rd_T104 t176 1).f2.f0) == 59) || (!(((rd_T104 t176 1).f2.f1) == 62))) = true then (metrolablaw47_awake.j0 k t173 t176 true) else (metrolablaw47_awake.j0 k t173 t176 (!((rd_T104 t176 1).f1)))) else (none)) = some r := by rw [if_neg (show ¬ (false = true) by decide)] at H; exact H
              clear H
              have H := H1
              clear H1
              by_cases c15 : 1 < (t176.length : Int)
              · rw [if_pos c15] at H
                have c15b0 : decide (1 < (t176.length : Int)) = true := decide_eq_true c15
                have c15b1 : decide (1 < t176.length) = true := decide_eq_true (by omega)
                clear c15
                by_cases c16 : (!(((rd_T104 t176 1).f2.f0) == 59) || (!(((rd_T104 t176 1).f2.f1) == 62))) = true
                · rw [if_pos c16] at H
                  have c16b0 : (!(((rd_T104 t176 1).f2.f0) == 59) || (!(((rd_T104 t176 1).f2.f1) == 62))) = true := c16
                  clear c16
                  have H' := Aside0.mk H
                  clear H
                  obtain ⟨Ao17, co17, eo17⟩ := Kd.R_slice HO178.out
                  subst eo17
                  have p180 : 0 ≤ (0 : Int) := (by omega)
                  have q180 : 0 < (t176.length : Int) := of_decide_eq_true (by first | (with_reducible assumption) | assumption)
                  obtain ⟨ad180, e180, hx180_0, hx180_1, hx180_2, hx180_3, hx180_4⟩ := at_T104 (Kd.R_reads' HO178.out).2.2 0 p180 q180
                  (try rw [← Nbq12.out] at hx180_2)
                  cases e180
                  have qi180 : (0 < t176.length) = True := eq_true (by omega)
                  (try rw [show ((0 : Int)).toNat = 0 from rfl] at hx180_0)
                  (try rw [show 0 * 5 = 0 from rfl] at hx180_0)
                  (try rw [Addr.add_zero'] at hx180_0)
                  (try rw [show ((0 : Int)).toNat = 0 from rfl] at hx180_1)
                  (try rw [show 0 * 5 = 0 from rfl] at hx180_1)
                  (try rw [Addr.add_zero'] at hx180_1)
                  (try rw [show ((0 : Int)).toNat = 0 from rfl] at hx180_2)
                  (try rw [show 0 * 5 = 0 from rfl] at hx180_2)
                  (try rw [Addr.add_zero'] at hx180_2)
                  (try rw [show ((0 : Int)).toNat = 0 from rfl] at hx180_3)
                  (try rw [show 0 * 5 = 0 from rfl] at hx180_3)
                  (try rw [Addr.add_zero'] at hx180_3)
                  (try rw [show ((0 : Int)).toNat = 0 from rfl] at hx180_4)
                  (try rw [show 0 * 5 = 0 from rfl] at hx180_4)
                  (try rw [Addr.add_zero'] at hx180_4)
                  replace p180 := eq_true p180
                  replace q180 := eq_true q180
                  have p181 : 0 ≤ (0 : Int) := (by omega)
                  have q181 : 0 < (t176.length : Int) := of_decide_eq_true (by first | (with_reducible assumption) | assumption)
                  obtain ⟨ad181, e181, hx181_0, hx181_1, hx181_2, hx181_3, hx181_4⟩ := at_T104 (Kd.R_reads' HO178.out).2.2 0 p181 q181
                  (try rw [← Nbq12.out] at hx181_2)
                  obtain rfl : ad180 = ad181 := (by injection e181)
                  have qi181 : (0 < t176.length) = True := eq_true (by omega)
                  (try rw [show ((0 : Int)).toNat = 0 from rfl] at hx181_0)
                  (try rw [show 0 * 5 = 0 from rfl] at hx181_0)
                  (try rw [Addr.add_zero'] at hx181_0)
                  (try rw [show ((0 : Int)).toNat = 0 from rfl] at hx181_1)
                  (try rw [show 0 * 5 = 0 from rfl] at hx181_1)
                  (try rw [Addr.add_zero'] at hx181_1)
                  (try rw [show ((0 : Int)).toNat = 0 from rfl] at hx181_2)
                  (try rw [show 0 * 5 = 0 from rfl] at hx181_2)
                  (try rw [Addr.add_zero'] at hx181_2)
                  (try rw [show ((0 : Int)).toNat = 0 from rfl] at hx181_3)
                  (try rw [show 0 * 5 = 0 from rfl] at hx181_3)
                  (try rw [Addr.add_zero'] at hx181_3)
                  (try rw [show ((0 : Int)).toNat = 0 from rfl] at hx181_4)
                  (try rw [show 0 * 5 = 0 from rfl] at hx181_4)
                  (try rw [Addr.add_zero'] at hx181_4)
                  replace p181 := eq_true p181
                  replace q181 := eq_true q181
                  have p182 : 0 ≤ (1 : Int) := (by omega)
                  have q182 : 1 < (t176.length : Int) := of_decide_eq_true (by first | (with_reducible assumption) | assumption)
                  obtain ⟨ad182, e182, hx182_0, hx182_1, hx182_2, hx182_3, hx182_4⟩ := at_T104 (Kd.R_reads' HO178.out).2.2 1 p182 q182
                  (try rw [← Nbq12.out] at hx182_2)
                  obtain rfl : ad180 = ad182 := (by injection e182)
                  (try simp only [show (1 : Int).toNat = 1 from rfl, Nat.reduceMul, Nat.reduceEqDiff, Go.Addr.add, ↓reduceIte] at hx182_0)
                  (try simp only [show (1 : Int).toNat = 1 from rfl, Nat.reduceMul, Nat.reduceEqDiff, Go.Addr.add, ↓reduceIte] at hx182_1)
                  (try simp only [show (1 : Int).toNat = 1 from rfl, Nat.reduceMul, Nat.reduceEqDiff, Go.Addr.add, ↓reduceIte] at hx182_2)
                  (try simp only [show (1 : Int).toNat = 1 from rfl, Nat.reduceMul, Nat.reduceEqDiff, Go.Addr.add, ↓reduceIte] at hx182_3)
                  (try simp only [show (1 : Int).toNat = 1 from rfl, Nat.reduceMul, Nat.reduceEqDiff, Go.Addr.add, ↓reduceIte] at hx182_4)
                  have qi182 : (1 < t176.length) = True := eq_true (by omega)
                  (try rw [show ((1 : Int)).toNat = 1 from rfl] at hx182_0)
                  (try rw [show 1 * 5 = 5 from rfl] at hx182_0)
                  (try rw [show ((1 : Int)).toNat = 1 from rfl] at hx182_1)
                  (try rw [show 1 * 5 = 5 from rfl] at hx182_1)
                  (try rw [show ((1 : Int)).toNat = 1 from rfl] at hx182_2)
                  (try rw [show 1 * 5 = 5 from rfl] at hx182_2)
                  (try rw [show ((1 : Int)).toNat = 1 from rfl] at hx182_3)
                  (try rw [show 1 * 5 = 5 from rfl] at hx182_3)
                  (try rw [show ((1 : Int)).toNat = 1 from rfl] at hx182_4)
                  (try rw [show 1 * 5 = 5 from rfl] at hx182_4)
                  replace p182 := eq_true p182
                  replace q182 := eq_true q182
                  go_wp2
                  go_meet
                  case rel => exact ⟨_, (true), (by first | rfl | (simp; done) | (simp [*]; done)), H', ⟨by first | omega | exact Nat.le_refl _⟩, ⟨by (with_reducible repeat (first | apply Kd.R_alloc | apply Kd.R_drewN | apply Kd.R_drew)); exact HO175.out⟩, ⟨by (with_reducible repeat (first | apply Kd.R_alloc | apply Kd.R_drewN | apply Kd.R_drew)); exact HO178.out⟩, ⟨by repeat (first | (with_reducible first | exact HB.out | apply below_alloc | apply pw_below_drewN | apply below_drew1) | exact HB.out)⟩⟩
                · rw [if_neg c16] at H
                  have c16b0 : (!(((rd_T104 t176 1).f2.f0) == 59) || (!(((rd_T104 t176 1).f2.f1) == 62))) = false := by simpa using c16
                  clear c16
                  have H' := Aside0.mk H
                  clear H
                  obtain ⟨Ao18, co18, eo18⟩ := Kd.R_slice HO178.out
                  subst eo18
                  have p180 : 0 ≤ (0 : Int) := (by omega)
                  have q180 : 0 < (t176.length : Int) := of_decide_eq_true (by first | (with_reducible assumption) | assumption)
                  obtain ⟨ad180, e180, hx180_0, hx180_1, hx180_2, hx180_3, hx180_4⟩ := at_T104 (Kd.R_reads' HO178.out).2.2 0 p180 q180
                  (try rw [← Nbq12.out] at hx180_2)
                  cases e180
                  have qi180 : (0 < t176.length) = True := eq_true (by omega)
                  (try rw [show ((0 : Int)).toNat = 0 from rfl] at hx180_0)
                  (try rw [show 0 * 5 = 0 from rfl] at hx180_0)
                  (try rw [Addr.add_zero'] at hx180_0)
                  (try rw [show ((0 : Int)).toNat = 0 from rfl] at hx180_1)
                  (try rw [show 0 * 5 = 0 from rfl] at hx180_1)
                  (try rw [Addr.add_zero'] at hx180_1)
                  (try rw [show ((0 : Int)).toNat = 0 from rfl] at hx180_2)
                  (try rw [show 0 * 5 = 0 from rfl] at hx180_2)
                  (try rw [Addr.add_zero'] at hx180_2)
                  (try rw [show ((0 : Int)).toNat = 0 from rfl] at hx180_3)
                  (try rw [show 0 * 5 = 0 from rfl] at hx180_3)
                  (try rw [Addr.add_zero'] at hx180_3)
                  (try rw [show ((0 : Int)).toNat = 0 from rfl] at hx180_4)
                  (try rw [show 0 * 5 = 0 from rfl] at hx180_4)
                  (try rw [Addr.add_zero'] at hx180_4)
                  replace p180 := eq_true p180
                  replace q180 := eq_true q180
                  have p181 : 0 ≤ (0 : Int) := (by omega)
                  have q181 : 0 < (t176.length : Int) := of_decide_eq_true (by first | (with_reducible assumption) | assumption)
                  obtain ⟨ad181, e181, hx181_0, hx181_1, hx181_2, hx181_3, hx181_4⟩ := at_T104 (Kd.R_reads' HO178.out).2.2 0 p181 q181
                  (try rw [← Nbq12.out] at hx181_2)
                  obtain rfl : ad180 = ad181 := (by injection e181)
                  have qi181 : (0 < t176.length) = True := eq_true (by omega)
                  (try rw [show ((0 : Int)).toNat = 0 from rfl] at hx181_0)
                  (try rw [show 0 * 5 = 0 from rfl] at hx181_0)
                  (try rw [Addr.add_zero'] at hx181_0)
                  (try rw [show ((0 : Int)).toNat = 0 from rfl] at hx181_1)
                  (try rw [show 0 * 5 = 0 from rfl] at hx181_1)
                  (try rw [Addr.add_zero'] at hx181_1)
                  (try rw [show ((0 : Int)).toNat = 0 from rfl] at hx181_2)
                  (try rw [show 0 * 5 = 0 from rfl] at hx181_2)
                  (try rw [Addr.add_zero'] at hx181_2)
                  (try rw [show ((0 : Int)).toNat = 0 from rfl] at hx181_3)
                  (try rw [show 0 * 5 = 0 from rfl] at hx181_3)
                  (try rw [Addr.add_zero'] at hx181_3)
                  (try rw [show ((0 : Int)).toNat = 0 from rfl] at hx181_4)
                  (try rw [show 0 * 5 = 0 from rfl] at hx181_4)
                  (try rw [Addr.add_zero'] at hx181_4)
                  replace p181 := eq_true p181
                  replace q181 := eq_true q181
                  have p182 : 0 ≤ (1 : Int) := (by omega)
                  have q182 : 1 < (t176.length : Int) := of_decide_eq_true (by first | (with_reducible assumption) | assumption)
                  obtain ⟨ad182, e182, hx182_0, hx182_1, hx182_2, hx182_3, hx182_4⟩ := at_T104 (Kd.R_reads' HO178.out).2.2 1 p182 q182
                  (try rw [← Nbq12.out] at hx182_2)
                  obtain rfl : ad180 = ad182 := (by injection e182)
                  (try simp only [show (1 : Int).toNat = 1 from rfl, Nat.reduceMul, Nat.reduceEqDiff, Go.Addr.add, ↓reduceIte] at hx182_0)
                  (try simp only [show (1 : Int).toNat = 1 from rfl, Nat.reduceMul, Nat.reduceEqDiff, Go.Addr.add, ↓reduceIte] at hx182_1)
                  (try simp only [show (1 : Int).toNat = 1 from rfl, Nat.reduceMul, Nat.reduceEqDiff, Go.Addr.add, ↓reduceIte] at hx182_2)
                  (try simp only [show (1 : Int).toNat = 1 from rfl, Nat.reduceMul, Nat.reduceEqDiff, Go.Addr.add, ↓reduceIte] at hx182_3)
                  (try simp only [show (1 : Int).toNat = 1 from rfl, Nat.reduceMul, Nat.reduceEqDiff, Go.Addr.add, ↓reduceIte] at hx182_4)
                  have qi182 : (1 < t176.length) = True := eq_true (by omega)
                  (try rw [show ((1 : Int)).toNat = 1 from rfl] at hx182_0)
                  (try rw [show 1 * 5 = 5 from rfl] at hx182_0)
                  (try rw [show ((1 : Int)).toNat = 1 from rfl] at hx182_1)
                  (try rw [show 1 * 5 = 5 from rfl] at hx182_1)
                  (try rw [show ((1 : Int)).toNat = 1 from rfl] at hx182_2)
                  (try rw [show 1 * 5 = 5 from rfl] at hx182_2)
                  (try rw [show ((1 : Int)).toNat = 1 from rfl] at hx182_3)
                  (try rw [show 1 * 5 = 5 from rfl] at hx182_3)
                  (try rw [show ((1 : Int)).toNat = 1 from rfl] at hx182_4)
                  (try rw [show 1 * 5 = 5 from rfl] at hx182_4)
                  replace p182 := eq_true p182
                  replace q182 := eq_true q182
                  have p183 : 0 ≤ (1 : Int) := (by omega)
                  have q183 : 1 < (t176.length : Int) := of_decide_eq_true (by first | (with_reducible assumption) | assumption)
                  obtain ⟨ad183, e183, hx183_0, hx183_1, hx183_2, hx183_3, hx183_4⟩ := at_T104 (Kd.R_reads' HO178.out).2.2 1 p183 q183
                  (try rw [← Nbq12.out] at hx183_2)
                  obtain rfl : ad180 = ad183 := (by injection e183)
                  (try simp only [show (1 : Int).toNat = 1 from rfl, Nat.reduceMul, Nat.reduceEqDiff, Go.Addr.add, ↓reduceIte] at hx183_0)
                  (try simp only [show (1 : Int).toNat = 1 from rfl, Nat.reduceMul, Nat.reduceEqDiff, Go.Addr.add, ↓reduceIte] at hx183_1)
                  (try simp only [show (1 : Int).toNat = 1 from rfl, Nat.reduceMul, Nat.reduceEqDiff, Go.Addr.add, ↓reduceIte] at hx183_2)
                  (try simp only [show (1 : Int).toNat = 1 from rfl, Nat.reduceMul, Nat.reduceEqDiff, Go.Addr.add, ↓reduceIte] at hx183_3)
                  (try simp only [show (1 : Int).toNat = 1 from rfl, Nat.reduceMul, Nat.reduceEqDiff, Go.Addr.add, ↓reduceIte] at hx183_4)
                  have qi183 : (1 < t176.length) = True := eq_true (by omega)
                  (try rw [show ((1 : Int)).toNat = 1 from rfl] at hx183_0)
                  (try rw [show 1 * 5 = 5 from rfl] at hx183_0)
                  (try rw [show ((1 : Int)).toNat = 1 from rfl] at hx183_1)
                  (try rw [show 1 * 5 = 5 from rfl] at hx183_1)
                  (try rw [show ((1 : Int)).toNat = 1 from rfl] at hx183_2)
                  (try rw [show 1 * 5 = 5 from rfl] at hx183_2)
                  (try rw [show ((1 : Int)).toNat = 1 from rfl] at hx183_3)
                  (try rw [show 1 * 5 = 5 from rfl] at hx183_3)
                  (try rw [show ((1 : Int)).toNat = 1 from rfl] at hx183_4)
                  (try rw [show 1 * 5 = 5 from rfl] at hx183_4)
                  replace p183 := eq_true p183
                  replace q183 := eq_true q183
                  go_wp2
                  go_meet
                  case rel => exact ⟨_, (!((rd_T104 t176 1).f1)), (by first | rfl | (simp; done) | (simp [*]; done)), H', ⟨by first | omega | exact Nat.le_refl _⟩, ⟨by (with_reducible repeat (first | apply Kd.R_alloc | apply Kd.R_drewN | apply Kd.R_drew)); exact HO175.out⟩, ⟨by (with_reducible repeat (first | apply Kd.R_alloc | apply Kd.R_drewN | apply Kd.R_drew)); exact HO178.out⟩, ⟨by repeat (first | (with_reducible first | exact HB.out | apply below_alloc | apply pw_below_drewN | apply below_drew1) | exact HB.out)⟩⟩
              · rw [if_neg c15] at H
                exact absurd H (by simp)
        · rw [if_neg c9] at H
          exact absurd H (by simp)
      · rw [if_neg c8] at H
        have c8b0 : ((t176.length : Int) == 2) = false := beq_eq_false_iff_ne.mpr c8
        have c8b1 : ((t176.length : Int) != 2) = true := bne_iff_ne.mpr c8
        have H' := Aside0.mk H
        clear H
        obtain ⟨Ao19, co19, eo19⟩ := Kd.R_slice HO178.out
        subst eo19
        go_wp2
        go_meet
        case rel => exact ⟨_, (true), (by first | rfl | (simp; done) | (simp [*]; done)), H', ⟨by first | omega | exact Nat.le_refl _⟩, ⟨by (with_reducible repeat (first | apply Kd.R_alloc | apply Kd.R_drewN | apply Kd.R_drew)); exact HO175.out⟩, ⟨by (with_reducible repeat (first | apply Kd.R_alloc | apply Kd.R_drewN | apply Kd.R_drew)); exact HO178.out⟩, ⟨by repeat (first | (with_reducible first | exact HB.out | apply below_alloc | apply pw_below_drewN | apply below_drew1) | exact HB.out)⟩⟩
    · rw [if_neg c7] at H
      have c7b0 : (t179 == 0) = false := beq_eq_false_iff_ne.mpr c7
      have c7b1 : (t179 != 0) = true := bne_iff_ne.mpr c7
      (first | rw [c7b0] | (simp only [i64_w, i32_w]; rw [c7b0]) | skip)
      have H' := Aside0.mk H
      clear H
      go_wp2
      go_meet
      case rel => exact ⟨_, (true), (by first | rfl | (simp; done) | (simp [*]; done)), H', ⟨by first | omega | exact Nat.le_refl _⟩, ⟨by (with_reducible repeat (first | apply Kd.R_alloc | apply Kd.R_drewN | apply Kd.R_drew)); exact HO175.out⟩, ⟨by (with_reducible repeat (first | apply Kd.R_alloc | apply Kd.R_drewN | apply Kd.R_drew)); exact HO178.out⟩, ⟨by repeat (first | (with_reducible first | exact HB.out | apply below_alloc | apply pw_below_drewN | apply below_drew1) | exact HB.out)⟩⟩
  case rest =>
    clear HC3
    try clear c1
    try clear p1
    try clear q1
    try clear hx1
    try clear qi1
    try clear p2
    try clear c3
    try clear c7
    try clear c7b0
    try clear c7b1
    try clear c8
    try clear c8b0
    try clear c8b1
    try clear c9
    try clear c9b0
    try clear c9b1
    try clear c10
    try clear c10b0
    try clear q12
    try clear c13
    try clear c15
    try clear c15b0
    try clear c15b1
    try clear c16
    try clear c16b0
    try clear p18
    try clear q18
    try clear hx18
    try clear qi18
    try clear hx180_0
    try clear hx180_1
    try clear hx180_2
    try clear hx180_3
    try clear hx180_4
    try clear hx181_0
    try clear hx181_1
    try clear hx181_2
    try clear hx181_3
    try clear hx181_4
    try clear hx182_0
    try clear hx182_1
    try clear hx182_2
    try clear hx182_3
    try clear hx182_4
    try clear hx183_0
    try clear hx183_1
    try clear hx183_2
    try clear hx183_3
    try clear hx183_4
    try clear p180
    try clear p181
    try clear p182
    try clear p183
    try clear q180
    try clear q181
    try clear q182
    try clear q183
    obtain ⟨kq, x50_2, rfl, HA, HJ2, HO_1, HO_2, HB⟩ := hcut
    cases kq with
    | zero => exact absurd HA.out (by simp [metrolablaw47_awake.j0])
    | succ kj2 =>
      have H := HA.out
      clear HA
      simp only [metrolablaw47_awake.j0] at H
      by_cases c20 : x50_2 = true
      · subst c20
        have H1 : (some false) = some r := by rw [if_pos rfl] at H; exact H
        clear H
        have H := H1
        clear H1
        obtain rfl := Option.some.inj H
        go_wp2
        go_ret
        exact ⟨by first | rfl | (simp [errW_none, errW_some] <;> rfl) | (simp [*, errW_none, errW_some] <;> rfl), by repeat (first | (with_reducible first | exact HB.out | apply below_alloc | apply pw_below_drewN | apply below_drew1) | exact HB.out)⟩
      · replace c20 := Bool.eq_false_iff.mpr c20
        subst c20
        have H1 : ((gauge_Loss.f kj2 t173 t176).bind fun bt184 => ((gauge_Made.f kj2 t176 true).bind fun bt186 => (if bt184.2 = 0 then (if bt186.2 = 0 then (if bt184.1 = 5 then ((gauge_Safe.f kj2 t173 t176).bind fun t190 => (if t190 = 0 then (metrolablaw47_awake.j1 kj2 t173 bt186.1 ((bt186.1.length : Int) != 2)) else (metrolablaw47_awake.j1 kj2 t173 bt186.1 true))) else (metrolablaw47_awake.j1 kj2 t173 bt186.1 true)) else (metrolablaw47_awake.j1 kj2 t173 bt186.1 true)) else (metrolablaw47_awake.j1 kj2 t173 bt186.1 true)))) = some r := by rw [if_neg (show ¬ (false = true) by decide)] at H; exact H
        clear H
        have H := H1
        clear H1
        replace H := Option.bind_eq_some_iff.mp H
        obtain ⟨⟨t184, t185⟩, A210, H⟩ := H
        replace H : ((gauge_Made.f kj2 t176 true).bind fun bt186 => (if t185 = 0 then (if bt186.2 = 0 then (if t184 = 5 then ((gauge_Safe.f kj2 t173 t176).bind fun t190 => (if t190 = 0 then (metrolablaw47_awake.j1 kj2 t173 bt186.1 ((bt186.1.length : Int) != 2)) else (metrolablaw47_awake.j1 kj2 t173 bt186.1 true))) else (metrolablaw47_awake.j1 kj2 t173 bt186.1 true)) else (metrolablaw47_awake.j1 kj2 t173 bt186.1 true)) else (metrolablaw47_awake.j1 kj2 t173 bt186.1 true))) = some r := H
        have A21 := Aside0.mk A210
        clear A210
        replace H := Option.bind_eq_some_iff.mp H
        obtain ⟨⟨t186, t187⟩, A220, H⟩ := H
        replace H : (if t185 = 0 then (if t187 = 0 then (if t184 = 5 then ((gauge_Safe.f kj2 t173 t176).bind fun t190 => (if t190 = 0 then (metrolablaw47_awake.j1 kj2 t173 t186 ((t186.length : Int) != 2)) else (metrolablaw47_awake.j1 kj2 t173 t186 true))) else (metrolablaw47_awake.j1 kj2 t173 t186 true)) else (metrolablaw47_awake.j1 kj2 t173 t186 true)) else (metrolablaw47_awake.j1 kj2 t173 t186 true)) = some r := H
        have A22 := Aside0.mk A220
        clear A220
        have HC23 := Aside0.mk H
        clear H
        obtain ⟨Ao24, co24, eo24⟩ := Kd.R_slice HO_2.out
        subst eo24
        go_upto_region 7 with (first | ((with_reducible refine gate_callee (f := 32) rfl ?_); refine goesL_ (some 54) rfl rfl Tryd.func32 (by kernel_rfl) rfl #[.slice Ao5 t173.length co5, .slice Ao24 t176.length co24] rfl (by (try simp only [List.map_toArray, List.map_cons, List.map_nil]); first | done | rfl | (simp only [List.length_drop, List.length_take]; rfl)) ?_; (with_reducible refine (gauge_Loss.calls kj2 _ _ t173 _ _ t176 t184 t185 _ ?side1 ?side2 ?side3 ?side4 A21.out (by exact sig_below HS.out (by repeat (first | (with_reducible first | exact HB.out | apply below_alloc | apply pw_below_drewN | apply below_drew1 | fail) | exact HB.out)))).mono ?_); (case side1 => repeat (first | exact (Kd.R_reads' HO_1.out).2.2 | (with_reducible refine Kd.C_alloc ?_ _) | (with_reducible refine Kd.C_drewN ?_ _) | (with_reducible refine Kd.C_drew ?_))); (case side2 => exact (Kd.R_reads' HO_1.out).2.1); (case side3 => repeat (first | exact (Kd.R_reads' HO_2.out).2.2 | (with_reducible refine Kd.C_alloc ?_ _) | (with_reducible refine Kd.C_drewN ?_ _) | (with_reducible refine Kd.C_drew ?_))); (case side4 => exact (Kd.R_reads' HO_2.out).2.1); rintro e w25 ⟨rfl, hb⟩; refine ⟨_, rfl, ?_⟩; have n0_ := Aside0.mk (Kd.R_below (by (with_reducible repeat (first | apply Kd.R_alloc | apply Kd.R_drewN | apply Kd.R_drew)); exact HO_1.out) hb); have n1_ := Aside0.mk (Kd.R_below (by (with_reducible repeat (first | apply Kd.R_alloc | apply Kd.R_drewN | apply Kd.R_drew)); exact HO_2.out) hb); have n2_ := Aside0.mk (below_step (by repeat (first | (with_reducible first | exact HB.out | apply below_alloc | apply pw_below_drewN | apply below_drew1) | exact HB.out)) hb); clear HO_1; clear HO_2; clear HB; have HO_1 := n0_; have HO_2 := n1_; have HB := n2_; clear n0_ n1_ n2_; (try clear hb); (try clear hb2); (try clear hk); (try clear hi)) | ((with_reducible refine gate_callee (f := 34) rfl ?_); refine goesL_ (some 59) rfl rfl Tryd.func34 (by kernel_rfl) rfl #[.slice Ao24 t176.length co24, .bool true] rfl (by (try simp only [List.map_toArray, List.map_cons, List.map_nil]); first | done | rfl | (simp only [List.length_drop, List.length_take]; rfl)) ?_; (with_reducible refine (gauge_Made.calls kj2 _ _ t176 true t186 t187 _ ?side1 ?side2 A22.out (by exact sig_below HS.out (by repeat (first | (with_reducible first | exact HB.out | apply below_alloc | apply pw_below_drewN | apply below_drew1 | fail) | exact HB.out)))).mono ?_); (case side1 => repeat (first | exact (Kd.R_reads' HO_2.out).2.2 | (with_reducible refine Kd.C_alloc ?_ _) | (with_reducible refine Kd.C_drewN ?_ _) | (with_reducible refine Kd.C_drew ?_))); (case side2 => exact (Kd.R_reads' HO_2.out).2.1); rintro e w26 ⟨v188, rfl, ho0, hb⟩; refine ⟨_, rfl, ?_⟩; have n0_ := Aside0.mk (Kd.R_below (by (with_reducible repeat (first | apply Kd.R_alloc | apply Kd.R_drewN | apply Kd.R_drew)); exact HO_1.out) hb); have n1_ := Aside0.mk (Kd.R_below (by (with_reducible repeat (first | apply Kd.R_alloc | apply Kd.R_drewN | apply Kd.R_drew)); exact HO_2.out) hb); have n2_ := Aside0.mk (Kd.R_lower ho0 (below_size (by repeat (first | (with_reducible first | exact HB.out | apply below_alloc | apply pw_below_drewN | apply below_drew1) | exact HB.out)))); have n3_ := Aside0.mk (below_step (by repeat (first | (with_reducible first | exact HB.out | apply below_alloc | apply pw_below_drewN | apply below_drew1) | exact HB.out)) hb); clear HO_1; clear HO_2; clear HB; have HO_1 := n0_; have HO_2 := n1_; have HO189 := n2_; have HB := n3_; clear n0_ n1_ n2_ n3_; (try clear hb); (try clear hb2); (try clear hk); (try clear hi); (try clear ho0)))
        (try simp only [Act.put, List.setIfInBounds_toArray, List.set_cons_zero, List.set_cons_succ])
        go_cut [82] (fun v82 wc => ∃ (kq : Nat) (x82_22 : Bool), v82 = .bool x82_22 ∧ Aside0 (metrolablaw47_awake.j1 kq t173 t186 x82_22 = some r) ∧ Aside0 (kq ≤ kj2) ∧ Aside0 (Kd.R k27 27 wc w.heap.size (fun _ => True) (.slice Ao5 t173.length co5) t173) ∧ Aside0 (Kd.R k56 56 wc w.heap.size (fun _ => True) v188 t186) ∧ Aside0 (Below w.heap.size w wc))
        case first =>
          have H := HC23.out
          clear HC23
          by_cases c27 : t185 = 0
          · rw [if_pos c27] at H
            have c27b0 : (t185 == 0) = true := beq_iff_eq.mpr c27
            have c27b1 : (t185 != 0) = false := bne_eq_false_iff_eq.mpr c27
            clear c27
            (first | rw [c27b0] | (simp only [i64_w, i32_w]; rw [c27b0]) | skip)
            by_cases c28 : t187 = 0
            · rw [if_pos c28] at H
              have c28b0 : (t187 == 0) = true := beq_iff_eq.mpr c28
              have c28b1 : (t187 != 0) = false := bne_eq_false_iff_eq.mpr c28
              clear c28
              by_cases c29 : t184 = 5
              · rw [if_pos c29] at H
                have c29b0 : (t184 == 5) = true := beq_iff_eq.mpr c29
                have c29b1 : (t184 != 5) = false := bne_eq_false_iff_eq.mpr c29
                clear c29
                replace H := Option.bind_eq_some_iff.mp H
                obtain ⟨t190, A300, H⟩ := H
                replace H : (if t190 = 0 then (metrolablaw47_awake.j1 kj2 t173 t186 ((t186.length : Int) != 2)) else (metrolablaw47_awake.j1 kj2 t173 t186 true)) = some r := H
                have A30 := Aside0.mk A300
                clear A300
                by_cases c31 : t190 = 0
                · rw [if_pos c31] at H
                  have c31b0 : (t190 == 0) = true := beq_iff_eq.mpr c31
                  have c31b1 : (t190 != 0) = false := bne_eq_false_iff_eq.mpr c31
                  clear c31
                  have H' := Aside0.mk H
                  clear H
                  go_wp2_with (first | (go_at_call 33; (with_reducible refine (gauge_Safe.calls kj2 _ _ t173 _ _ t176 t190 _ ?side1 ?side2 ?side3 ?side4 A30.out (by exact sig_below HS.out (by repeat (first | (with_reducible first | exact HB.out | apply below_alloc | apply pw_below_drewN | apply below_drew1 | fail) | exact HB.out)))).mono ?_); (case side1 => repeat (first | exact (Kd.R_reads' HO_1.out).2.2 | (with_reducible refine Kd.C_alloc ?_ _) | (with_reducible refine Kd.C_drewN ?_ _) | (with_reducible refine Kd.C_drew ?_))); (case side2 => exact (Kd.R_reads' HO_1.out).2.1); (case side3 => repeat (first | exact (Kd.R_reads' HO_2.out).2.2 | (with_reducible refine Kd.C_alloc ?_ _) | (with_reducible refine Kd.C_drewN ?_ _) | (with_reducible refine Kd.C_drew ?_))); (case side4 => exact (Kd.R_reads' HO_2.out).2.1); rintro e w32 ⟨rfl, hb⟩; have n0_ := Aside0.mk (Kd.R_below (by (with_reducible repeat (first | apply Kd.R_alloc | apply Kd.R_drewN | apply Kd.R_drew)); exact HO_1.out) hb); have n1_ := Aside0.mk (Kd.R_below (by (with_reducible repeat (first | apply Kd.R_alloc | apply Kd.R_drewN | apply Kd.R_drew)); exact HO_2.out) hb); have n2_ := Aside0.mk (Kd.R_below (by (with_reducible repeat (first | apply Kd.R_alloc | apply Kd.R_drewN | apply Kd.R_drew)); exact HO189.out) hb); have n3_ := Aside0.mk (below_step (by repeat (first | (with_reducible first | exact HB.out | apply below_alloc | apply pw_below_drewN | apply below_drew1) | exact HB.out)) hb); clear HO_1; clear HO_2; clear HO189; clear HB; have HO_1 := n0_; have HO_2 := n1_; have HO189 := n2_; have HB := n3_; clear n0_ n1_ n2_ n3_; (try clear hb); (try clear hb2); (try clear hk); (try clear hi); obtain ⟨Ao33, co33, eo33⟩ := Kd.R_slice HO189.out; subst eo33))
                  go_meet
                  case rel => exact ⟨_, (((t186.length : Int) != 2)), (by first | rfl | (simp; done) | (simp [*]; done)), H', ⟨by have := HJ2.out; first | omega | exact Nat.le_refl _⟩, ⟨by (with_reducible repeat (first | apply Kd.R_alloc | apply Kd.R_drewN | apply Kd.R_drew)); exact HO_1.out⟩, ⟨by (with_reducible repeat (first | apply Kd.R_alloc | apply Kd.R_drewN | apply Kd.R_drew)); exact HO189.out⟩, ⟨by repeat (first | (with_reducible first | exact HB.out | apply below_alloc | apply pw_below_drewN | apply below_drew1) | exact HB.out)⟩⟩
                · rw [if_neg c31] at H
                  have c31b0 : (t190 == 0) = false := beq_eq_false_iff_ne.mpr c31
                  have c31b1 : (t190 != 0) = true := bne_iff_ne.mpr c31
                  have H' := Aside0.mk H
                  clear H
                  go_wp2_with (first | (go_at_call 33; (with_reducible refine (gauge_Safe.calls kj2 _ _ t173 _ _ t176 t190 _ ?side1 ?side2 ?side3 ?side4 A30.out (by exact sig_below HS.out (by repeat (first | (with_reducible first | exact HB.out | apply below_alloc | apply pw_below_drewN | apply below_drew1 | fail) | exact HB.out)))).mono ?_); (case side1 => repeat (first | exact (Kd.R_reads' HO_1.out).2.2 | (with_reducible refine Kd.C_alloc ?_ _) | (with_reducible refine Kd.C_drewN ?_ _) | (with_reducible refine Kd.C_drew ?_))); (case side2 => exact (Kd.R_reads' HO_1.out).2.1); (case side3 => repeat (first | exact (Kd.R_reads' HO_2.out).2.2 | (with_reducible refine Kd.C_alloc ?_ _) | (with_reducible refine Kd.C_drewN ?_ _) | (with_reducible refine Kd.C_drew ?_))); (case side4 => exact (Kd.R_reads' HO_2.out).2.1); rintro e w34 ⟨rfl, hb⟩; have n0_ := Aside0.mk (Kd.R_below (by (with_reducible repeat (first | apply Kd.R_alloc | apply Kd.R_drewN | apply Kd.R_drew)); exact HO_1.out) hb); have n1_ := Aside0.mk (Kd.R_below (by (with_reducible repeat (first | apply Kd.R_alloc | apply Kd.R_drewN | apply Kd.R_drew)); exact HO_2.out) hb); have n2_ := Aside0.mk (Kd.R_below (by (with_reducible repeat (first | apply Kd.R_alloc | apply Kd.R_drewN | apply Kd.R_drew)); exact HO189.out) hb); have n3_ := Aside0.mk (below_step (by repeat (first | (with_reducible first | exact HB.out | apply below_alloc | apply pw_below_drewN | apply below_drew1) | exact HB.out)) hb); clear HO_1; clear HO_2; clear HO189; clear HB; have HO_1 := n0_; have HO_2 := n1_; have HO189 := n2_; have HB := n3_; clear n0_ n1_ n2_ n3_; (try clear hb); (try clear hb2); (try clear hk); (try clear hi)))
                  go_meet
                  case rel => exact ⟨_, (true), (by first | rfl | (simp; done) | (simp [*]; done)), H', ⟨by have := HJ2.out; first | omega | exact Nat.le_refl _⟩, ⟨by (with_reducible repeat (first | apply Kd.R_alloc | apply Kd.R_drewN | apply Kd.R_drew)); exact HO_1.out⟩, ⟨by (with_reducible repeat (first | apply Kd.R_alloc | apply Kd.R_drewN | apply Kd.R_drew)); exact HO189.out⟩, ⟨by repeat (first | (with_reducible first | exact HB.out | apply below_alloc | apply pw_below_drewN | apply below_drew1) | exact HB.out)⟩⟩
              · rw [if_neg c29] at H
                have c29b0 : (t184 == 5) = false := beq_eq_false_iff_ne.mpr c29
                have c29b1 : (t184 != 5) = true := bne_iff_ne.mpr c29
                have H' := Aside0.mk H
                clear H
                go_wp2
                go_meet
                case rel => exact ⟨_, (true), (by first | rfl | (simp; done) | (simp [*]; done)), H', ⟨by have := HJ2.out; first | omega | exact Nat.le_refl _⟩, ⟨by (with_reducible repeat (first | apply Kd.R_alloc | apply Kd.R_drewN | apply Kd.R_drew)); exact HO_1.out⟩, ⟨by (with_reducible repeat (first | apply Kd.R_alloc | apply Kd.R_drewN | apply Kd.R_drew)); exact HO189.out⟩, ⟨by repeat (first | (with_reducible first | exact HB.out | apply below_alloc | apply pw_below_drewN | apply below_drew1) | exact HB.out)⟩⟩
            · rw [if_neg c28] at H
              have c28b0 : (t187 == 0) = false := beq_eq_false_iff_ne.mpr c28
              have c28b1 : (t187 != 0) = true := bne_iff_ne.mpr c28
              have H' := Aside0.mk H
              clear H
              go_wp2
              go_meet
              case rel => exact ⟨_, (true), (by first | rfl | (simp; done) | (simp [*]; done)), H', ⟨by have := HJ2.out; first | omega | exact Nat.le_refl _⟩, ⟨by (with_reducible repeat (first | apply Kd.R_alloc | apply Kd.R_drewN | apply Kd.R_drew)); exact HO_1.out⟩, ⟨by (with_reducible repeat (first | apply Kd.R_alloc | apply Kd.R_drewN | apply Kd.R_drew)); exact HO189.out⟩, ⟨by repeat (first | (with_reducible first | exact HB.out | apply below_alloc | apply pw_below_drewN | apply below_drew1) | exact HB.out)⟩⟩
          · rw [if_neg c27] at H
            have c27b0 : (t185 == 0) = false := beq_eq_false_iff_ne.mpr c27
            have c27b1 : (t185 != 0) = true := bne_iff_ne.mpr c27
            (first | rw [c27b0] | (simp only [i64_w, i32_w]; rw [c27b0]) | skip)
            have H' := Aside0.mk H
            clear H
            go_wp2
            go_meet
            case rel => exact ⟨_, (true), (by first | rfl | (simp; done) | (simp [*]; done)), H', ⟨by have := HJ2.out; first | omega | exact Nat.le_refl _⟩, ⟨by (with_reducible repeat (first | apply Kd.R_alloc | apply Kd.R_drewN | apply Kd.R_drew)); exact HO_1.out⟩, ⟨by (with_reducible repeat (first | apply Kd.R_alloc | apply Kd.R_drewN | apply Kd.R_drew)); exact HO189.out⟩, ⟨by repeat (first | (with_reducible first | exact HB.out | apply below_alloc | apply pw_below_drewN | apply below_drew1) | exact HB.out)⟩⟩
        case rest =>
          clear HC23
          try clear c1
          try clear p1
          try clear q1
          try clear hx1
          try clear qi1
          try clear c2
          try clear p2
          try clear c3
          try clear c7
          try clear c7b0
          try clear c7b1
          try clear c8
          try clear c8b0
          try clear c8b1
          try clear c9
          try clear c9b0
          try clear c9b1
          try clear c10
          try clear c10b0
          try clear q12
          try clear c13
          try clear c15
          try clear c15b0
          try clear c15b1
          try clear c16
          try clear c16b0
          try clear p18
          try clear q18
          try clear hx18
          try clear qi18
          try clear c20
          try clear c27
          try clear c27b0
          try clear c27b1
          try clear c28
          try clear c28b0
          try clear c28b1
          try clear c29
          try clear c29b0
          try clear c29b1
          try clear c30
          try clear c31
          try clear c31b0
          try clear c31b1
          try clear c32
          try clear c34
          try clear hx180_0
          try clear hx180_1
          try clear hx180_2
          try clear hx180_3
          try clear hx180_4
          try clear hx181_0
          try clear hx181_1
          try clear hx181_2
          try clear hx181_3
          try clear hx181_4
          try clear hx182_0
          try clear hx182_1
          try clear hx182_2
          try clear hx182_3
          try clear hx182_4
          try clear hx183_0
          try clear hx183_1
          try clear hx183_2
          try clear hx183_3
          try clear hx183_4
          try clear p1
          try clear p18
          try clear p180
          try clear p181
          try clear p182
          try clear p183
          try clear p2
          try clear q1
          try clear q12
          try clear q18
          try clear q180
          try clear q181
          try clear q182
          try clear q183
          obtain ⟨kq, x82_22, rfl, HA, HJ22, HO_1, HO_5, HB⟩ := hcut
          cases kq with
          | zero => exact absurd HA.out (by simp [metrolablaw47_awake.j1])
          | succ kj22 =>
            have H := HA.out
            clear HA
            simp only [metrolablaw47_awake.j1] at H
            by_cases c35 : x82_22 = true
            · subst c35
              have H1 : (some false) = some r := by rw [if_pos rfl] at H; exact H
              clear H
              have H := H1
              clear H1
              obtain rfl := Option.some.inj H
              go_wp2
              go_ret
              exact ⟨by first | rfl | (simp [errW_none, errW_some] <;> rfl) | (simp [*, errW_none, errW_some] <;> rfl), by repeat (first | (with_reducible first | exact HB.out | apply below_alloc | apply pw_below_drewN | apply below_drew1) | exact HB.out)⟩
            · replace c35 := Bool.eq_false_iff.mpr c35
              subst c35
              have H1 : (if 0 < (t186.length : Int) then ((some (t186.set (0 : Int).toNat (⟨(⟨(rd_T56 t186 0).f0.f0, (rd_T56 t186 0).f0.f1⟩ : S23), (rd_T56 t186 0).f1, 91⟩ : S56) : List (S56))).bind fun y191 => (if 1 < (t186.length : Int) then ((gauge_Worn.f kj22 t173 (y191.set (1 : Int).toNat (⟨(⟨(rd_T56 y191 1).f0.f0, (rd_T56 y191 1).f0.f1⟩ : S23), (rd_T56 y191 1).f1, 64⟩ : S56))).bind fun bt193 => (if bt193.2 = 0 then ((slices_Equal_int_int.f kj22 bt193.1 (([0] : List Int))).bind fun t200 => (some t200)) else (some false))) else (none))) else (none)) = some r := by rw [if_neg (show ¬ (false = true) by decide)] at H; exact H
              clear H
              have H := H1
              clear H1
              by_cases c36 : 0 < (t186.length : Int)
              · rw [if_pos c36] at H
                have c36b0 : decide (0 < (t186.length : Int)) = true := decide_eq_true c36
                have c36b1 : decide (0 < t186.length) = true := decide_eq_true (by omega)
                clear c36
                obtain ⟨y191, hy191⟩ : ∃ y_ : List (S56), y_ = (t186.set (0 : Int).toNat (⟨(⟨(rd_T56 t186 0).f0.f0, (rd_T56 t186 0).f0.f1⟩ : S23), (rd_T56 t186 0).f1, 91⟩ : S56)) := ⟨_, rfl⟩
                replace H : (if 1 < (t186.length : Int) then ((gauge_Worn.f kj22 t173 (y191.set (1 : Int).toNat (⟨(⟨(rd_T56 y191 1).f0.f0, (rd_T56 y191 1).f0.f1⟩ : S23), (rd_T56 y191 1).f1, 64⟩ : S56))).bind fun bt193 => (if bt193.2 = 0 then ((slices_Equal_int_int.f kj22 bt193.1 (([0] : List Int))).bind fun t200 => (some t200)) else (some false))) else (none)) = some r := by first | (rw [hy191]; with_reducible exact H) | (have H2_ := (Option.bind_some _ _).symm.trans H; rw [hy191]; with_reducible exact H2_) | (have H2_ := (Option.bind_some _ _).symm.trans H; with_reducible exact H2_) | with_reducible exact H | (rw [hy191]; exact H) | exact H
                have Ny191 := Aside0.mk hy191
                clear hy191
                by_cases c38 : 1 < (t186.length : Int)
                · rw [if_pos c38] at H
                  have c38b0 : decide (1 < (t186.length : Int)) = true := decide_eq_true c38
                  have c38b1 : decide (1 < t186.length) = true := decide_eq_true (by omega)
                  clear c38
                  obtain ⟨y192, hy192⟩ : ∃ y_ : List (S56), y_ = (y191.set (1 : Int).toNat (⟨(⟨(rd_T56 y191 1).f0.f0, (rd_T56 y191 1).f0.f1⟩ : S23), (rd_T56 y191 1).f1, 64⟩ : S56)) := ⟨_, rfl⟩
                  replace H : ((gauge_Worn.f kj22 t173 y192).bind fun bt193 => (if bt193.2 = 0 then ((slices_Equal_int_int.f kj22 bt193.1 (([0] : List Int))).bind fun t200 => (some t200)) else (some false))) = some r := by first | (rw [hy192]; with_reducible exact H) | (have H2_ := (Option.bind_some _ _).symm.trans H; rw [hy192]; with_reducible exact H2_) | (have H2_ := (Option.bind_some _ _).symm.trans H; with_reducible exact H2_) | with_reducible exact H | (rw [hy192]; exact H) | exact H
                  have Ny192 := Aside0.mk hy192
                  clear hy192
                  replace H := Option.bind_eq_some_iff.mp H
                  obtain ⟨⟨t193, t194⟩, A400, H⟩ := H
                  replace H : (if t194 = 0 then ((slices_Equal_int_int.f kj22 t193 (([0] : List Int))).bind fun t200 => (some t200)) else (some false)) = some r := H
                  have A40 := Aside0.mk A400
                  clear A400
                  by_cases c41 : t194 = 0
                  · rw [if_pos c41] at H
                    have c41b0 : (t194 == 0) = true := beq_iff_eq.mpr c41
                    have c41b1 : (t194 != 0) = false := bne_eq_false_iff_eq.mpr c41
                    clear c41
                    obtain ⟨y197, hy197⟩ : ∃ y_ : List Int, y_ = (([0] : List Int)) := ⟨_, rfl⟩
                    replace H : ((slices_Equal_int_int.f kj22 t193 y197).bind fun t200 => (some t200)) = some r := by first | (rw [hy197]; with_reducible exact H) | (have H2_ := (Option.bind_some _ _).symm.trans H; rw [hy197]; with_reducible exact H2_) | (have H2_ := (Option.bind_some _ _).symm.trans H; with_reducible exact H2_) | with_reducible exact H | (rw [hy197]; exact H) | exact H
                    have Ny197 := Aside0.mk hy197
                    clear hy197
                    replace H := Option.bind_eq_some_iff.mp H
                    obtain ⟨t200, A420, H⟩ := H
                    replace H : (some t200) = some r := H
                    have A42 := Aside0.mk A420
                    clear A420
                    obtain rfl := Option.some.inj H
                    have p37 : 0 ≤ (0 : Int) := (by omega)
                    have q37 : (0 : Int) < ((t186.length : Int) : Int) := of_decide_eq_true (by first | (with_reducible assumption) | assumption)
                    have qi37 : (0 < t186.length) = True := eq_true (by omega)
                    obtain ⟨go37, co37, eo37, gb37, gl37, cl37, HG37⟩ := Kd.R_form HO_5.out (by omega)
                    (first | cases eo37 | (injection eo37 with ea_ en_ ec_; (first | subst ea_ | (injection ea_ with ea_; subst ea_)); subst ec_; clear en_))
                    have GB37 := Aside0.mk gb37
                    have GG37 := Aside0.mk HG37
                    clear gb37 gl37 HG37
                    obtain ⟨ce37, hcl37, hM37, hcc37, hfr37⟩ := Kd.R_elem HO_5.out z56 (0 : Int) p37 q37
                    obtain rfl := k56_openM hM37
                    have hx37_0 : wc.cell? ⟨go37, (0 : Int).toNat * 4, none⟩ = some (.int .i64 ((rd_T56 t186 0).f0.f0)) := hcc37 0 _ rfl
                    have hx37_1 : wc.cell? ⟨go37, (0 : Int).toNat * 4 + 1, none⟩ = some (.int .i64 ((rd_T56 t186 0).f0.f1)) := hcc37 1 _ rfl
                    have hx37_2 : wc.cell? ⟨go37, (0 : Int).toNat * 4 + 2, none⟩ = some (.bool ((rd_T56 t186 0).f1)) := hcc37 2 _ rfl
                    have hx37_3 : wc.cell? ⟨go37, (0 : Int).toNat * 4 + 3, none⟩ = some (.int .i64 ((rd_T56 t186 0).f2)) := hcc37 3 _ rfl
                    have hf37_0 : wc.frozen? ⟨go37, (0 : Int).toNat * 4, none⟩ = false := hfr37 0
                    have hf37_1 : wc.frozen? ⟨go37, (0 : Int).toNat * 4 + 1, none⟩ = false := hfr37 1
                    have hf37_2 : wc.frozen? ⟨go37, (0 : Int).toNat * 4 + 2, none⟩ = false := hfr37 2
                    have hf37_3 : wc.frozen? ⟨go37, (0 : Int).toNat * 4 + 3, none⟩ = false := hfr37 3
                    clear hcl37 hcc37 hfr37 hM37
                    (try rw [show ((0 : Int)).toNat = 0 from rfl] at hx37_0)
                    (try simp only [Nat.reduceMul, Nat.zero_mul, Nat.zero_add, Nat.reduceAdd] at hx37_0)
                    (try rw [show ((0 : Int)).toNat = 0 from rfl] at hf37_0)
                    (try simp only [Nat.reduceMul, Nat.zero_mul, Nat.zero_add, Nat.reduceAdd] at hf37_0)
                    (try rw [show ((0 : Int)).toNat = 0 from rfl] at hx37_1)
                    (try simp only [Nat.reduceMul, Nat.zero_mul, Nat.zero_add, Nat.reduceAdd] at hx37_1)
                    (try rw [show ((0 : Int)).toNat = 0 from rfl] at hf37_1)
                    (try simp only [Nat.reduceMul, Nat.zero_mul, Nat.zero_add, Nat.reduceAdd] at hf37_1)
                    (try rw [show ((0 : Int)).toNat = 0 from rfl] at hx37_2)
                    (try simp only [Nat.reduceMul, Nat.zero_mul, Nat.zero_add, Nat.reduceAdd] at hx37_2)
                    (try rw [show ((0 : Int)).toNat = 0 from rfl] at hf37_2)
                    (try simp only [Nat.reduceMul, Nat.zero_mul, Nat.zero_add, Nat.reduceAdd] at hf37_2)
                    (try rw [show ((0 : Int)).toNat = 0 from rfl] at hx37_3)
                    (try simp only [Nat.reduceMul, Nat.zero_mul, Nat.zero_add, Nat.reduceAdd] at hx37_3)
                    (try rw [show ((0 : Int)).toNat = 0 from rfl] at hf37_3)
                    (try simp only [Nat.reduceMul, Nat.zero_mul, Nat.zero_add, Nat.reduceAdd] at hf37_3)
                    replace p37 := eq_true p37
                    replace q37 := eq_true q37
                    have HX43 := Aside0.mk (show Kd.R k56 56 wc w.heap.size (fun _ => True) (.slice (some ⟨go37, 0, none⟩) t186.length co37) t186 from (by (with_reducible repeat (first | apply Kd.R_alloc | apply Kd.R_drewN | apply Kd.R_drew)); exact HO_5.out))
                    obtain ⟨ce43, hcl43, hM43, hcc43, hfr43⟩ := Kd.R_elem HX43.out z56 (0 : Int) (by omega) (by have h_ : (0 : Int) < ((t186.length : Int) : Int) := of_decide_eq_true (by first | (with_reducible assumption) | assumption); first | exact h_ | (have e_ := (Kd.R_reads' HO_5.out).1; omega) | simpa using h_)
                    obtain rfl := k56_openM hM43
                    have HP43 := Kd.R_seg HX43.out (0 : Int) (by omega) (by have h_ : (0 : Int) < ((t186.length : Int) : Int) := of_decide_eq_true (by first | (with_reducible assumption) | assumption); first | exact h_ | (have e_ := (Kd.R_reads' HO_5.out).1; omega) | simpa using h_) (seg := [.int .i64 91]) (j := 3) hcl43 hcc43 (show 4 ≤ 4 from by decide) (x' := (⟨(⟨(rd_T56 t186 0).f0.f0, (rd_T56 t186 0).f0.f1⟩ : S23), (rd_T56 t186 0).f1, 91⟩ : S56)) (k56_mkM _ _ _ (⟨(⟨(rd_T56 t186 0).f0.f0, (rd_T56 t186 0).f0.f1⟩ : S23), (rd_T56 t186 0).f1, 91⟩ : S56) ) (fun _ hk => hk)
                    have hx43_3 := hcc43 3 _ rfl
                    (try simp only [show (k56).sz = 4 from rfl, Nat.mul_one, Nat.add_zero] at hx43_3)
                    (try rw [show ((0 : Int)).toNat = 0 from rfl] at hx43_3)
                    (try simp only [Nat.reduceMul, Nat.zero_mul, Nat.zero_add, Nat.reduceAdd] at hx43_3)
                    have hf43_3 := hfr43 3
                    (try simp only [show (k56).sz = 4 from rfl, Nat.mul_one, Nat.add_zero] at hf43_3)
                    (try rw [show ((0 : Int)).toNat = 0 from rfl] at hf43_3)
                    (try simp only [Nat.reduceMul, Nat.zero_mul, Nat.zero_add, Nat.reduceAdd] at hf43_3)
                    clear hcl43 hcc43 hfr43 hM43
                    go_wp2_with (first | ((with_reducible refine gate_store (t := 3) (p := 86) rfl ?_); refine store_event (t := 3) (p := 86) (v := ?vo_w44) (w1 := (wc.setCell ⟨go37, 3, none⟩ (.int .i64 91))) ?hg ?ho ?hn ?hr ?_; (case ho => rfl); (case hg => rfl); (case hn => rfl); (case hr => first | (go_simp; done) | (go_simp; rfl)); intro w44 hw; have hg : wc.grownBy w44 (some go37) := (by rw [hw]; exact HP43.2); have hp_ : Kd.R k56 56 w44 w.heap.size (fun _ => True) (.slice (some ⟨go37, 0, none⟩) t186.length co37) y191 := (by rw [hw, Ny191.out]; exact HP43.1); clear HP43; have n0_ := Aside0.mk (Kd.R_over' (v := (.slice (some ⟨go37, 0, none⟩) t186.length co37)) (by (with_reducible repeat (first | apply Kd.R_alloc | apply Kd.R_drewN | apply Kd.R_drew)); exact HO_1.out) (Kd.R_typed HO_5.out) (by decide) hg); have n1_ := Aside0.mk (hp_); have n2_ := Aside0.mk ((by rw [hw]; exact below_set (HB.out) GB37.out : Below w.heap.size w w44)); clear HO_1; clear HO_5; clear HB; have HO_1 := n0_; have HO_5 := n1_; have HB := n2_; clear n0_ n1_ n2_; clear hg hw hp_; have p39 : 0 ≤ (1 : Int) := (by omega); have q39 : (1 : Int) < ((t186.length : Int) : Int) := of_decide_eq_true (by first | (with_reducible assumption) | assumption); have qi39 : (1 < t186.length) = True := eq_true (by omega); obtain ⟨ce39, hcl39, hM39, hcc39, hfr39⟩ := Kd.R_elem HO_5.out z56 (1 : Int) p39 q39; obtain rfl := k56_openM hM39; have hx39_0 : w44.cell? ⟨go37, (1 : Int).toNat * 4, none⟩ = some (.int .i64 ((rd_T56 y191 1).f0.f0)) := hcc39 0 _ rfl; have hx39_1 : w44.cell? ⟨go37, (1 : Int).toNat * 4 + 1, none⟩ = some (.int .i64 ((rd_T56 y191 1).f0.f1)) := hcc39 1 _ rfl; have hx39_2 : w44.cell? ⟨go37, (1 : Int).toNat * 4 + 2, none⟩ = some (.bool ((rd_T56 y191 1).f1)) := hcc39 2 _ rfl; have hx39_3 : w44.cell? ⟨go37, (1 : Int).toNat * 4 + 3, none⟩ = some (.int .i64 ((rd_T56 y191 1).f2)) := hcc39 3 _ rfl; have hf39_0 : w44.frozen? ⟨go37, (1 : Int).toNat * 4, none⟩ = false := hfr39 0; have hf39_1 : w44.frozen? ⟨go37, (1 : Int).toNat * 4 + 1, none⟩ = false := hfr39 1; have hf39_2 : w44.frozen? ⟨go37, (1 : Int).toNat * 4 + 2, none⟩ = false := hfr39 2; have hf39_3 : w44.frozen? ⟨go37, (1 : Int).toNat * 4 + 3, none⟩ = false := hfr39 3; clear hcl39 hcc39 hfr39 hM39; (try rw [show ((1 : Int)).toNat = 1 from rfl] at hx39_0); (try simp only [Nat.reduceMul, Nat.zero_mul, Nat.zero_add, Nat.reduceAdd] at hx39_0); (try rw [show ((1 : Int)).toNat = 1 from rfl] at hf39_0); (try simp only [Nat.reduceMul, Nat.zero_mul, Nat.zero_add, Nat.reduceAdd] at hf39_0); (try rw [show ((1 : Int)).toNat = 1 from rfl] at hx39_1); (try simp only [Nat.reduceMul, Nat.zero_mul, Nat.zero_add, Nat.reduceAdd] at hx39_1); (try rw [show ((1 : Int)).toNat = 1 from rfl] at hf39_1); (try simp only [Nat.reduceMul, Nat.zero_mul, Nat.zero_add, Nat.reduceAdd] at hf39_1); (try rw [show ((1 : Int)).toNat = 1 from rfl] at hx39_2); (try simp only [Nat.reduceMul, Nat.zero_mul, Nat.zero_add, Nat.reduceAdd] at hx39_2); (try rw [show ((1 : Int)).toNat = 1 from rfl] at hf39_2); (try simp only [Nat.reduceMul, Nat.zero_mul, Nat.zero_add, Nat.reduceAdd] at hf39_2); (try rw [show ((1 : Int)).toNat = 1 from rfl] at hx39_3); (try simp only [Nat.reduceMul, Nat.zero_mul, Nat.zero_add, Nat.reduceAdd] at hx39_3); (try rw [show ((1 : Int)).toNat = 1 from rfl] at hf39_3); (try simp only [Nat.reduceMul, Nat.zero_mul, Nat.zero_add, Nat.reduceAdd] at hf39_3); replace p39 := eq_true p39; replace q39 := eq_true q39; have HX45 := Aside0.mk (show Kd.R k56 56 w44 w.heap.size (fun _ => True) (.slice (some ⟨go37, 0, none⟩) t186.length co37) y191 from (by (with_reducible repeat (first | apply Kd.R_alloc | apply Kd.R_drewN | apply Kd.R_drew)); exact HO_5.out)); obtain ⟨ce45, hcl45, hM45, hcc45, hfr45⟩ := Kd.R_elem HX45.out z56 (1 : Int) (by omega) (by have h_ : (1 : Int) < ((t186.length : Int) : Int) := of_decide_eq_true (by first | (with_reducible assumption) | assumption); first | exact h_ | (have e_ := (Kd.R_reads' HO_5.out).1; omega) | simpa using h_); obtain rfl := k56_openM hM45; have HP45 := Kd.R_seg HX45.out (1 : Int) (by omega) (by have h_ : (1 : Int) < ((t186.length : Int) : Int) := of_decide_eq_true (by first | (with_reducible assumption) | assumption); first | exact h_ | (have e_ := (Kd.R_reads' HO_5.out).1; omega) | simpa using h_) (seg := [.int .i64 64]) (j := 3) hcl45 hcc45 (show 4 ≤ 4 from by decide) (x' := (⟨(⟨(rd_T56 y191 1).f0.f0, (rd_T56 y191 1).f0.f1⟩ : S23), (rd_T56 y191 1).f1, 64⟩ : S56)) (k56_mkM _ _ _ (⟨(⟨(rd_T56 y191 1).f0.f0, (rd_T56 y191 1).f0.f1⟩ : S23), (rd_T56 y191 1).f1, 64⟩ : S56) ) (fun _ hk => hk); have hx45_3 := hcc45 3 _ rfl; (try simp only [show (k56).sz = 4 from rfl, Nat.mul_one, Nat.add_zero] at hx45_3); (try rw [show ((1 : Int)).toNat = 1 from rfl] at hx45_3); (try simp only [Nat.reduceMul, Nat.zero_mul, Nat.zero_add, Nat.reduceAdd] at hx45_3); have hf45_3 := hfr45 3; (try simp only [show (k56).sz = 4 from rfl, Nat.mul_one, Nat.add_zero] at hf45_3); (try rw [show ((1 : Int)).toNat = 1 from rfl] at hf45_3); (try simp only [Nat.reduceMul, Nat.zero_mul, Nat.zero_add, Nat.reduceAdd] at hf45_3); clear hcl45 hcc45 hfr45 hM45) | ((with_reducible refine gate_store (t := 3) (p := 88) rfl ?_); refine store_event (t := 3) (p := 88) (v := ?vo_w46) (w1 := (w44.setCell ⟨go37, 7, none⟩ (.int .i64 64))) ?hg ?ho ?hn ?hr ?_; (case ho => rfl); (case hg => rfl); (case hn => rfl); (case hr => first | (go_simp; done) | (go_simp; rfl)); intro w46 hw; have hg : w44.grownBy w46 (some go37) := (by rw [hw]; exact HP45.2); have hp_ : Kd.R k56 56 w46 w.heap.size (fun _ => True) (.slice (some ⟨go37, 0, none⟩) t186.length co37) y192 := (by rw [hw, Ny192.out]; exact HP45.1); clear HP45; have n0_ := Aside0.mk (Kd.R_over' (v := (.slice (some ⟨go37, 0, none⟩) t186.length co37)) (by (with_reducible repeat (first | apply Kd.R_alloc | apply Kd.R_drewN | apply Kd.R_drew)); exact HO_1.out) (Kd.R_typed HO_5.out) (by decide) hg); have n1_ := Aside0.mk (hp_); have n2_ := Aside0.mk ((by rw [hw]; exact below_set (HB.out) GB37.out : Below w.heap.size w w46)); clear HO_1; clear HO_5; clear HB; have HO_1 := n0_; have HO_5 := n1_; have HB := n2_; clear n0_ n1_ n2_; clear hg hw hp_) | ((with_reducible refine gate_callee (f := 36) rfl ?_); refine goesL_ (some 92) rfl rfl Tryd.func36 (by kernel_rfl) rfl #[.slice Ao5 t173.length co5, .slice (some ⟨go37, 0, none⟩) y192.length co37] rfl (by (try simp only [List.map_toArray, List.map_cons, List.map_nil]); first | done | (rw [show y192.length = t186.length from (Kd.R_reads' HO_5.out).1.symm] <;> rfl) | rfl | (simp only [List.length_drop, List.length_take]; rfl)) ?_; (with_reducible refine (gauge_Worn.calls kj22 _ _ t173 _ _ y192 t193 t194 _ ?side1 ?side2 ?side3 ?side4 A40.out (by exact sig_below HS.out (by repeat (first | (with_reducible first | exact HB.out | apply below_alloc | apply pw_below_drewN | apply below_drew1 | fail) | exact HB.out)))).mono ?_); (case side1 => repeat (first | exact (Kd.R_reads' HO_1.out).2.2 | (with_reducible refine Kd.C_alloc ?_ _) | (with_reducible refine Kd.C_drewN ?_ _) | (with_reducible refine Kd.C_drew ?_))); (case side2 => exact (Kd.R_reads' HO_1.out).2.1); (case side3 => repeat (first | exact (Kd.R_reads' HO_5.out).2.2 | (with_reducible refine Kd.C_alloc ?_ _) | (with_reducible refine Kd.C_drewN ?_ _) | (with_reducible refine Kd.C_drew ?_))); (case side4 => rw [show y192.length = t186.length from (Kd.R_reads' HO_5.out).1.symm]; exact (Kd.R_reads' HO_5.out).2.1); rintro e w47 ⟨v195, rfl, ho0, hb⟩; refine ⟨_, rfl, ?_⟩; have n0_ := Aside0.mk (Kd.R_below (by (with_reducible repeat (first | apply Kd.R_alloc | apply Kd.R_drewN | apply Kd.R_drew)); exact HO_1.out) hb); have n1_ := Aside0.mk (Kd.R_below (by (with_reducible repeat (first | apply Kd.R_alloc | apply Kd.R_drewN | apply Kd.R_drew)); exact HO_5.out) hb); have n2_ := Aside0.mk (Kd.R_lower ho0 (below_size (by repeat (first | (with_reducible first | exact HB.out | apply below_alloc | apply pw_below_drewN | apply below_drew1) | exact HB.out)))); have n3_ := Aside0.mk (below_step (by repeat (first | (with_reducible first | exact HB.out | apply below_alloc | apply pw_below_drewN | apply below_drew1) | exact HB.out)) hb); clear HO_1; clear HO_5; clear HB; have HO_1 := n0_; have HO_5 := n1_; have HO196 := n2_; have HB := n3_; clear n0_ n1_ n2_ n3_; (try clear hb); (try clear hb2); (try clear hk); (try clear hi); (try clear ho0)) | ((with_reducible refine gate_dst (N := 99) rfl ?_); (try (refine gate_guard (by rfl) ?_; dsimp only)); refine Kd.R_lit (Kd.int .i64) _ 3 ?hg (N := 99) ?hd (xs := ([0] : List Int)) (inner := [.int .i64 0]) (ok := fun _ => True) (okp := fun _ => True) ?hr ?hp (fun _ hk => hk) trivial (Below.refl _ _) (Nat.le_refl _) (by simp) ?_; (case hd => rfl); (case hg => rfl); (case hr => first | (go_simp; done) | (go_simp; rfl)); (case hp => exact (Reps.one (show Kd.M (Kd.int .i64) _ _ _ 0 [.int .i64 0] from rfl) (Reps.none _ _))); intro v198 w48 ho49 hb hg_ hnew_; clear hg_ hnew_; (first | rw [← Ny197.out] at ho49 | (simp only [Int.reduceToNat] at ho49; rw [← Ny197.out] at ho49)); have n0_ := Aside0.mk (Kd.R_below (by (with_reducible repeat (first | apply Kd.R_alloc | apply Kd.R_drewN | apply Kd.R_drew)); exact HO_1.out) hb); have n1_ := Aside0.mk (Kd.R_below (by (with_reducible repeat (first | apply Kd.R_alloc | apply Kd.R_drewN | apply Kd.R_drew)); exact HO_5.out) hb); have n2_ := Aside0.mk (Kd.R_elder' (by (with_reducible repeat (first | apply Kd.R_alloc | apply Kd.R_drewN | apply Kd.R_drew)); exact HO196.out) (Kd.R_base ho49) hb); have n3_ := Aside0.mk (Kd.R_lower (Kd.R_new' ho49 (Kd.R_lt (by (with_reducible repeat (first | apply Kd.R_alloc | apply Kd.R_drewN | apply Kd.R_drew)); exact HO196.out))) (below_size (by repeat (first | (with_reducible first | exact HB.out | apply below_alloc | apply pw_below_drewN | apply below_drew1) | exact HB.out)))); have n4_ := Aside0.mk (below_step (by repeat (first | (with_reducible first | exact HB.out | apply below_alloc | apply pw_below_drewN | apply below_drew1) | exact HB.out)) hb); clear HO_1; clear HO_5; clear HO196; clear HB; have HO_1 := n0_; have HO_5 := n1_; have HO196 := n2_; have HO199 := n3_; have HB := n4_; clear n0_ n1_ n2_ n3_ n4_; clear hb ho49; obtain ⟨Ao50, co50, eo50⟩ := Kd.R_slice HO196.out; subst eo50; obtain ⟨Ao51, co51, eo51⟩ := Kd.R_slice HO199.out; subst eo51) | (go_at_call 55; (with_reducible refine (slices_Equal_int_int.calls kj22 _ _ t193 _ _ y197 t200 _ ?side1 ?side2 ?side3 ?side4 A42.out).mono ?_); (case side1 => repeat (first | exact (Kd.R_reads' HO196.out).2.2 | (with_reducible refine Kd.C_alloc ?_ _) | (with_reducible refine Kd.C_drewN ?_ _) | (with_reducible refine Kd.C_drew ?_))); (case side2 => exact (Kd.R_reads' HO196.out).2.1); (case side3 => repeat (first | exact (Kd.R_reads' HO199.out).2.2 | (with_reducible refine Kd.C_alloc ?_ _) | (with_reducible refine Kd.C_drewN ?_ _) | (with_reducible refine Kd.C_drew ?_))); (case side4 => exact (Kd.R_reads' HO199.out).2.1); rintro e w' ⟨rfl, ⟨nd, rfl⟩⟩))
                    go_ret
                    exact ⟨by first | rfl | (simp [errW_none, errW_some] <;> rfl) | (simp [*, errW_none, errW_some] <;> rfl), by repeat (first | (with_reducible first | exact HB.out | apply below_alloc | apply pw_below_drewN | apply below_drew1) | exact HB.out)⟩
                  · rw [if_neg c41] at H
                    have c41b0 : (t194 == 0) = false := beq_eq_false_iff_ne.mpr c41
                    have c41b1 : (t194 != 0) = true := bne_iff_ne.mpr c41
                    obtain rfl := Option.some.inj H
                    have p37 : 0 ≤ (0 : Int) := (by omega)
                    have q37 : (0 : Int) < ((t186.length : Int) : Int) := of_decide_eq_true (by first | (with_reducible assumption) | assumption)
                    have qi37 : (0 < t186.length) = True := eq_true (by omega)
                    obtain ⟨go37, co37, eo37, gb37, gl37, cl37, HG37⟩ := Kd.R_form HO_5.out (by omega)
                    (first | cases eo37 | (injection eo37 with ea_ en_ ec_; (first | subst ea_ | (injection ea_ with ea_; subst ea_)); subst ec_; clear en_))
                    have GB37 := Aside0.mk gb37
                    have GG37 := Aside0.mk HG37
                    clear gb37 gl37 HG37
                    obtain ⟨ce37, hcl37, hM37, hcc37, hfr37⟩ := Kd.R_elem HO_5.out z56 (0 : Int) p37 q37
                    obtain rfl := k56_openM hM37
                    have hx37_0 : wc.cell? ⟨go37, (0 : Int).toNat * 4, none⟩ = some (.int .i64 ((rd_T56 t186 0).f0.f0)) := hcc37 0 _ rfl
                    have hx37_1 : wc.cell? ⟨go37, (0 : Int).toNat * 4 + 1, none⟩ = some (.int .i64 ((rd_T56 t186 0).f0.f1)) := hcc37 1 _ rfl
                    have hx37_2 : wc.cell? ⟨go37, (0 : Int).toNat * 4 + 2, none⟩ = some (.bool ((rd_T56 t186 0).f1)) := hcc37 2 _ rfl
                    have hx37_3 : wc.cell? ⟨go37, (0 : Int).toNat * 4 + 3, none⟩ = some (.int .i64 ((rd_T56 t186 0).f2)) := hcc37 3 _ rfl
                    have hf37_0 : wc.frozen? ⟨go37, (0 : Int).toNat * 4, none⟩ = false := hfr37 0
                    have hf37_1 : wc.frozen? ⟨go37, (0 : Int).toNat * 4 + 1, none⟩ = false := hfr37 1
                    have hf37_2 : wc.frozen? ⟨go37, (0 : Int).toNat * 4 + 2, none⟩ = false := hfr37 2
                    have hf37_3 : wc.frozen? ⟨go37, (0 : Int).toNat * 4 + 3, none⟩ = false := hfr37 3
                    clear hcl37 hcc37 hfr37 hM37
                    (try rw [show ((0 : Int)).toNat = 0 from rfl] at hx37_0)
                    (try simp only [Nat.reduceMul, Nat.zero_mul, Nat.zero_add, Nat.reduceAdd] at hx37_0)
                    (try rw [show ((0 : Int)).toNat = 0 from rfl] at hf37_0)
                    (try simp only [Nat.reduceMul, Nat.zero_mul, Nat.zero_add, Nat.reduceAdd] at hf37_0)
                    (try rw [show ((0 : Int)).toNat = 0 from rfl] at hx37_1)
                    (try simp only [Nat.reduceMul, Nat.zero_mul, Nat.zero_add, Nat.reduceAdd] at hx37_1)
                    (try rw [show ((0 : Int)).toNat = 0 from rfl] at hf37_1)
                    (try simp only [Nat.reduceMul, Nat.zero_mul, Nat.zero_add, Nat.reduceAdd] at hf37_1)
                    (try rw [show ((0 : Int)).toNat = 0 from rfl] at hx37_2)
                    (try simp only [Nat.reduceMul, Nat.zero_mul, Nat.zero_add, Nat.reduceAdd] at hx37_2)
                    (try rw [show ((0 : Int)).toNat = 0 from rfl] at hf37_2)
                    (try simp only [Nat.reduceMul, Nat.zero_mul, Nat.zero_add, Nat.reduceAdd] at hf37_2)
                    (try rw [show ((0 : Int)).toNat = 0 from rfl] at hx37_3)
                    (try simp only [Nat.reduceMul, Nat.zero_mul, Nat.zero_add, Nat.reduceAdd] at hx37_3)
                    (try rw [show ((0 : Int)).toNat = 0 from rfl] at hf37_3)
                    (try simp only [Nat.reduceMul, Nat.zero_mul, Nat.zero_add, Nat.reduceAdd] at hf37_3)
                    replace p37 := eq_true p37
                    replace q37 := eq_true q37
                    have HX52 := Aside0.mk (show Kd.R k56 56 wc w.heap.size (fun _ => True) (.slice (some ⟨go37, 0, none⟩) t186.length co37) t186 from (by (with_reducible repeat (first | apply Kd.R_alloc | apply Kd.R_drewN | apply Kd.R_drew)); exact HO_5.out))
                    obtain ⟨ce52, hcl52, hM52, hcc52, hfr52⟩ := Kd.R_elem HX52.out z56 (0 : Int) (by omega) (by have h_ : (0 : Int) < ((t186.length : Int) : Int) := of_decide_eq_true (by first | (with_reducible assumption) | assumption); first | exact h_ | (have e_ := (Kd.R_reads' HO_5.out).1; omega) | simpa using h_)
                    obtain rfl := k56_openM hM52
                    have HP52 := Kd.R_seg HX52.out (0 : Int) (by omega) (by have h_ : (0 : Int) < ((t186.length : Int) : Int) := of_decide_eq_true (by first | (with_reducible assumption) | assumption); first | exact h_ | (have e_ := (Kd.R_reads' HO_5.out).1; omega) | simpa using h_) (seg := [.int .i64 91]) (j := 3) hcl52 hcc52 (show 4 ≤ 4 from by decide) (x' := (⟨(⟨(rd_T56 t186 0).f0.f0, (rd_T56 t186 0).f0.f1⟩ : S23), (rd_T56 t186 0).f1, 91⟩ : S56)) (k56_mkM _ _ _ (⟨(⟨(rd_T56 t186 0).f0.f0, (rd_T56 t186 0).f0.f1⟩ : S23), (rd_T56 t186 0).f1, 91⟩ : S56) ) (fun _ hk => hk)
                    have hx52_3 := hcc52 3 _ rfl
                    (try simp only [show (k56).sz = 4 from rfl, Nat.mul_one, Nat.add_zero] at hx52_3)
                    (try rw [show ((0 : Int)).toNat = 0 from rfl] at hx52_3)
                    (try simp only [Nat.reduceMul, Nat.zero_mul, Nat.zero_add, Nat.reduceAdd] at hx52_3)
                    have hf52_3 := hfr52 3
                    (try simp only [show (k56).sz = 4 from rfl, Nat.mul_one, Nat.add_zero] at hf52_3)
                    (try rw [show ((0 : Int)).toNat = 0 from rfl] at hf52_3)
                    (try simp only [Nat.reduceMul, Nat.zero_mul, Nat.zero_add, Nat.reduceAdd] at hf52_3)
                    clear hcl52 hcc52 hfr52 hM52
                    go_wp2_with (first | ((with_reducible refine gate_store (t := 3) (p := 86) rfl ?_); refine store_event (t := 3) (p := 86) (v := ?vo_w53) (w1 := (wc.setCell ⟨go37, 3, none⟩ (.int .i64 91))) ?hg ?ho ?hn ?hr ?_; (case ho => rfl); (case hg => rfl); (case hn => rfl); (case hr => first | (go_simp; done) | (go_simp; rfl)); intro w53 hw; have hg : wc.grownBy w53 (some go37) := (by rw [hw]; exact HP52.2); have hp_ : Kd.R k56 56 w53 w.heap.size (fun _ => True) (.slice (some ⟨go37, 0, none⟩) t186.length co37) y191 := (by rw [hw, Ny191.out]; exact HP52.1); clear HP52; have n0_ := Aside0.mk (Kd.R_over' (v := (.slice (some ⟨go37, 0, none⟩) t186.length co37)) (by (with_reducible repeat (first | apply Kd.R_alloc | apply Kd.R_drewN | apply Kd.R_drew)); exact HO_1.out) (Kd.R_typed HO_5.out) (by decide) hg); have n1_ := Aside0.mk (hp_); have n2_ := Aside0.mk ((by rw [hw]; exact below_set (HB.out) GB37.out : Below w.heap.size w w53)); clear HO_1; clear HO_5; clear HB; have HO_1 := n0_; have HO_5 := n1_; have HB := n2_; clear n0_ n1_ n2_; clear hg hw hp_; have p39 : 0 ≤ (1 : Int) := (by omega); have q39 : (1 : Int) < ((t186.length : Int) : Int) := of_decide_eq_true (by first | (with_reducible assumption) | assumption); have qi39 : (1 < t186.length) = True := eq_true (by omega); obtain ⟨ce39, hcl39, hM39, hcc39, hfr39⟩ := Kd.R_elem HO_5.out z56 (1 : Int) p39 q39; obtain rfl := k56_openM hM39; have hx39_0 : w53.cell? ⟨go37, (1 : Int).toNat * 4, none⟩ = some (.int .i64 ((rd_T56 y191 1).f0.f0)) := hcc39 0 _ rfl; have hx39_1 : w53.cell? ⟨go37, (1 : Int).toNat * 4 + 1, none⟩ = some (.int .i64 ((rd_T56 y191 1).f0.f1)) := hcc39 1 _ rfl; have hx39_2 : w53.cell? ⟨go37, (1 : Int).toNat * 4 + 2, none⟩ = some (.bool ((rd_T56 y191 1).f1)) := hcc39 2 _ rfl; have hx39_3 : w53.cell? ⟨go37, (1 : Int).toNat * 4 + 3, none⟩ = some (.int .i64 ((rd_T56 y191 1).f2)) := hcc39 3 _ rfl; have hf39_0 : w53.frozen? ⟨go37, (1 : Int).toNat * 4, none⟩ = false := hfr39 0; have hf39_1 : w53.frozen? ⟨go37, (1 : Int).toNat * 4 + 1, none⟩ = false := hfr39 1; have hf39_2 : w53.frozen? ⟨go37, (1 : Int).toNat * 4 + 2, none⟩ = false := hfr39 2; have hf39_3 : w53.frozen? ⟨go37, (1 : Int).toNat * 4 + 3, none⟩ = false := hfr39 3; clear hcl39 hcc39 hfr39 hM39; (try rw [show ((1 : Int)).toNat = 1 from rfl] at hx39_0); (try simp only [Nat.reduceMul, Nat.zero_mul, Nat.zero_add, Nat.reduceAdd] at hx39_0); (try rw [show ((1 : Int)).toNat = 1 from rfl] at hf39_0); (try simp only [Nat.reduceMul, Nat.zero_mul, Nat.zero_add, Nat.reduceAdd] at hf39_0); (try rw [show ((1 : Int)).toNat = 1 from rfl] at hx39_1); (try simp only [Nat.reduceMul, Nat.zero_mul, Nat.zero_add, Nat.reduceAdd] at hx39_1); (try rw [show ((1 : Int)).toNat = 1 from rfl] at hf39_1); (try simp only [Nat.reduceMul, Nat.zero_mul, Nat.zero_add, Nat.reduceAdd] at hf39_1); (try rw [show ((1 : Int)).toNat = 1 from rfl] at hx39_2); (try simp only [Nat.reduceMul, Nat.zero_mul, Nat.zero_add, Nat.reduceAdd] at hx39_2); (try rw [show ((1 : Int)).toNat = 1 from rfl] at hf39_2); (try simp only [Nat.reduceMul, Nat.zero_mul, Nat.zero_add, Nat.reduceAdd] at hf39_2); (try rw [show ((1 : Int)).toNat = 1 from rfl] at hx39_3); (try simp only [Nat.reduceMul, Nat.zero_mul, Nat.zero_add, Nat.reduceAdd] at hx39_3); (try rw [show ((1 : Int)).toNat = 1 from rfl] at hf39_3); (try simp only [Nat.reduceMul, Nat.zero_mul, Nat.zero_add, Nat.reduceAdd] at hf39_3); replace p39 := eq_true p39; replace q39 := eq_true q39; have HX54 := Aside0.mk (show Kd.R k56 56 w53 w.heap.size (fun _ => True) (.slice (some ⟨go37, 0, none⟩) t186.length co37) y191 from (by (with_reducible repeat (first | apply Kd.R_alloc | apply Kd.R_drewN | apply Kd.R_drew)); exact HO_5.out)); obtain ⟨ce54, hcl54, hM54, hcc54, hfr54⟩ := Kd.R_elem HX54.out z56 (1 : Int) (by omega) (by have h_ : (1 : Int) < ((t186.length : Int) : Int) := of_decide_eq_true (by first | (with_reducible assumption) | assumption); first | exact h_ | (have e_ := (Kd.R_reads' HO_5.out).1; omega) | simpa using h_); obtain rfl := k56_openM hM54; have HP54 := Kd.R_seg HX54.out (1 : Int) (by omega) (by have h_ : (1 : Int) < ((t186.length : Int) : Int) := of_decide_eq_true (by first | (with_reducible assumption) | assumption); first | exact h_ | (have e_ := (Kd.R_reads' HO_5.out).1; omega) | simpa using h_) (seg := [.int .i64 64]) (j := 3) hcl54 hcc54 (show 4 ≤ 4 from by decide) (x' := (⟨(⟨(rd_T56 y191 1).f0.f0, (rd_T56 y191 1).f0.f1⟩ : S23), (rd_T56 y191 1).f1, 64⟩ : S56)) (k56_mkM _ _ _ (⟨(⟨(rd_T56 y191 1).f0.f0, (rd_T56 y191 1).f0.f1⟩ : S23), (rd_T56 y191 1).f1, 64⟩ : S56) ) (fun _ hk => hk); have hx54_3 := hcc54 3 _ rfl; (try simp only [show (k56).sz = 4 from rfl, Nat.mul_one, Nat.add_zero] at hx54_3); (try rw [show ((1 : Int)).toNat = 1 from rfl] at hx54_3); (try simp only [Nat.reduceMul, Nat.zero_mul, Nat.zero_add, Nat.reduceAdd] at hx54_3); have hf54_3 := hfr54 3; (try simp only [show (k56).sz = 4 from rfl, Nat.mul_one, Nat.add_zero] at hf54_3); (try rw [show ((1 : Int)).toNat = 1 from rfl] at hf54_3); (try simp only [Nat.reduceMul, Nat.zero_mul, Nat.zero_add, Nat.reduceAdd] at hf54_3); clear hcl54 hcc54 hfr54 hM54) | ((with_reducible refine gate_store (t := 3) (p := 88) rfl ?_); refine store_event (t := 3) (p := 88) (v := ?vo_w55) (w1 := (w53.setCell ⟨go37, 7, none⟩ (.int .i64 64))) ?hg ?ho ?hn ?hr ?_; (case ho => rfl); (case hg => rfl); (case hn => rfl); (case hr => first | (go_simp; done) | (go_simp; rfl)); intro w55 hw; have hg : w53.grownBy w55 (some go37) := (by rw [hw]; exact HP54.2); have hp_ : Kd.R k56 56 w55 w.heap.size (fun _ => True) (.slice (some ⟨go37, 0, none⟩) t186.length co37) y192 := (by rw [hw, Ny192.out]; exact HP54.1); clear HP54; have n0_ := Aside0.mk (Kd.R_over' (v := (.slice (some ⟨go37, 0, none⟩) t186.length co37)) (by (with_reducible repeat (first | apply Kd.R_alloc | apply Kd.R_drewN | apply Kd.R_drew)); exact HO_1.out) (Kd.R_typed HO_5.out) (by decide) hg); have n1_ := Aside0.mk (hp_); have n2_ := Aside0.mk ((by rw [hw]; exact below_set (HB.out) GB37.out : Below w.heap.size w w55)); clear HO_1; clear HO_5; clear HB; have HO_1 := n0_; have HO_5 := n1_; have HB := n2_; clear n0_ n1_ n2_; clear hg hw hp_) | ((with_reducible refine gate_callee (f := 36) rfl ?_); refine goesL_ (some 92) rfl rfl Tryd.func36 (by kernel_rfl) rfl #[.slice Ao5 t173.length co5, .slice (some ⟨go37, 0, none⟩) y192.length co37] rfl (by (try simp only [List.map_toArray, List.map_cons, List.map_nil]); first | done | (rw [show y192.length = t186.length from (Kd.R_reads' HO_5.out).1.symm] <;> rfl) | rfl | (simp only [List.length_drop, List.length_take]; rfl)) ?_; (with_reducible refine (gauge_Worn.calls kj22 _ _ t173 _ _ y192 t193 t194 _ ?side1 ?side2 ?side3 ?side4 A40.out (by exact sig_below HS.out (by repeat (first | (with_reducible first | exact HB.out | apply below_alloc | apply pw_below_drewN | apply below_drew1 | fail) | exact HB.out)))).mono ?_); (case side1 => repeat (first | exact (Kd.R_reads' HO_1.out).2.2 | (with_reducible refine Kd.C_alloc ?_ _) | (with_reducible refine Kd.C_drewN ?_ _) | (with_reducible refine Kd.C_drew ?_))); (case side2 => exact (Kd.R_reads' HO_1.out).2.1); (case side3 => repeat (first | exact (Kd.R_reads' HO_5.out).2.2 | (with_reducible refine Kd.C_alloc ?_ _) | (with_reducible refine Kd.C_drewN ?_ _) | (with_reducible refine Kd.C_drew ?_))); (case side4 => rw [show y192.length = t186.length from (Kd.R_reads' HO_5.out).1.symm]; exact (Kd.R_reads' HO_5.out).2.1); rintro e w56 ⟨v195, rfl, ho0, hb⟩; refine ⟨_, rfl, ?_⟩; have n0_ := Aside0.mk (Kd.R_below (by (with_reducible repeat (first | apply Kd.R_alloc | apply Kd.R_drewN | apply Kd.R_drew)); exact HO_1.out) hb); have n1_ := Aside0.mk (Kd.R_below (by (with_reducible repeat (first | apply Kd.R_alloc | apply Kd.R_drewN | apply Kd.R_drew)); exact HO_5.out) hb); have n2_ := Aside0.mk (Kd.R_lower ho0 (below_size (by repeat (first | (with_reducible first | exact HB.out | apply below_alloc | apply pw_below_drewN | apply below_drew1) | exact HB.out)))); have n3_ := Aside0.mk (below_step (by repeat (first | (with_reducible first | exact HB.out | apply below_alloc | apply pw_below_drewN | apply below_drew1) | exact HB.out)) hb); clear HO_1; clear HO_5; clear HB; have HO_1 := n0_; have HO_5 := n1_; have HO196 := n2_; have HB := n3_; clear n0_ n1_ n2_ n3_; (try clear hb); (try clear hb2); (try clear hk); (try clear hi); (try clear ho0)))
                    go_ret
                    exact ⟨by first | rfl | (simp [errW_none, errW_some] <;> rfl) | (simp [*, errW_none, errW_some] <;> rfl), by repeat (first | (with_reducible first | exact HB.out | apply below_alloc | apply pw_below_drewN | apply below_drew1) | exact HB.out)⟩
                · rw [if_neg c38] at H
                  exact absurd H (by simp)
              · rw [if_neg c36] at H
                exact absurd H (by simp)
end Go.Proofs.YtjemaonejkepcaaDoor.G
namespace Go.Proofs.YtjemaonejkepcaaDoor.G
set_option linter.unusedVariables false
set_option linter.unusedSimpArgs false
open Go.Proofs.YtjemaonejkepcaaDoor.B
open Go.RowKit Go.Proofs.YtjemaonejkepcaaDoorW.PrintWords
theorem awake_60 : metrolablaw47_awake.f 60 = some true := by decide +kernel
/-- The element of a right target. -/
def de (W M : Int) (t : S27) : S104 := if t.f4 = true then ⟨⟨t.f0.f0, t.f0.f1⟩, true, ⟨tv t - W - M, tv t - W⟩⟩ else ⟨⟨t.f0.f0, t.f0.f1⟩, false, ⟨tv t + W, tv t + W + M⟩⟩
/-- All elements' sizes are at least 1. -/
def lowOk (W M : Int) : List S27 → Bool
  | [] => true
  | t :: r => decide (1 ≤ (de W M t).f2.f0) && lowOk W M r
/-- The error of a design. -/
def dz (W M : Int) (l : List S27) : Int := if ce l = 0 then (if 0 ≤ W ∧ W ≤ 100000 ∧ 0 ≤ M ∧ M ≤ 100000 then (if lowOk W M l = true then 0 else 14) else 2) else ce l
theorem de_step {sz : List Int} {W M : Int} (hW : 0 ≤ W ∧ W ≤ 100000) (hM : 0 ≤ M ∧ M ≤ 100000) {l : List S27} {i : Int} (h0 : 0 ≤ i) (h1 : i < (l.length : Int)) (hs : sz = l.map tv) (ht : te (rd_T27 l i) = 0) :
    @gauge_Design_1.f (Dat82.mk sz W M) i (rd_T27 l i).f0.f0 (rd_T27 l i).f0.f1 (rd_T27 l i).f1.f0 (rd_T27 l i).f1.f1 (rd_T27 l i).f2 (rd_T27 l i).f3 (rd_T27 l i).f4
      = some (if 1 ≤ (de W M (rd_T27 l i)).f2.f0 then ((de W M (rd_T27 l i)).f0.f0, (de W M (rd_T27 l i)).f0.f1, (de W M (rd_T27 l i)).f1, (de W M (rd_T27 l i)).f2.f0, (de W M (rd_T27 l i)).f2.f1, 0) else (0, 0, false, 0, 0, 14)) := by
  have hl : i < (sz.length : Int) := by rw [hs]; simpa using h1
  have hr : rd sz i = tv (rd_T27 l i) := by rw [hs]; exact getD_map tv l z27 0 (by omega)
  have hv := tv_range ht
  unfold gauge_Design_1.f de
  rw [if_pos h0]
  simp only [hr]
  rw [if_pos hl]
  cases hp : (rd_T27 l i).f4 with
  | true =>
    simp only [if_true]
    rw [w64 (n := tv (rd_T27 l i) - W) (by omega), w64 (by omega)]
    by_cases hL : tv (rd_T27 l i) - W - M < 1
    · rw [if_pos hL, if_neg (by omega)]
    · rw [if_neg hL, if_pos (by omega)]
  | false =>
    simp only [Bool.false_eq_true, if_false]
    rw [w64 (n := tv (rd_T27 l i) + W) (by omega), w64 (by omega)]
    by_cases hL : tv (rd_T27 l i) + W < 1
    · rw [if_pos hL, if_neg (by omega)]
    · rw [if_neg hL, if_pos (by omega)]
theorem low_ok {W M : Int} {t : S27} {r : List S27} (h : 1 ≤ (de W M t).f2.f0) : lowOk W M (t :: r) = lowOk W M r := by
  show (decide (1 ≤ (de W M t).f2.f0) && lowOk W M r) = _; rw [decide_eq_true h]; rfl
theorem low_bad {W M : Int} {t : S27} {r : List S27} (h : ¬ 1 ≤ (de W M t).f2.f0) : lowOk W M (t :: r) = false := by
  show (decide (1 ≤ (de W M t).f2.f0) && lowOk W M r) = _; rw [decide_eq_false h]; rfl
theorem elem_l0 {W M : Int} (hW : 0 ≤ W ∧ W ≤ 100000) (hM : 0 ≤ M ∧ M ≤ 100000) (l : List S27) (hn : l.length ≤ 1000) (hl : ∀ t ∈ l, te t = 0) (d : Nat) : ∀ (k : Nat) (acc : List S104) (i : Int), 0 ≤ i → (l.length : Int) - i = d → acc.length + d ≤ 1000 → d + 4 ≤ k →
    @gauge_Element.l0 (Dat82.mk (l.map tv) W M) k acc l (l.length : Int) i = some (if lowOk W M (l.drop i.toNat) = true then (acc ++ (l.drop i.toNat).map (de W M), 0) else ([], 14)) := by
  induction d with
  | zero =>
    intro k acc i h0 hd ha hk
    obtain ⟨k, rfl⟩ : ∃ m, k = m + 1 := ⟨k - 1, by omega⟩
    rw [drop_end l (by omega)]
    simp only [gauge_Element.l0]
    rw [if_neg (by omega)]; simp [lowOk]
  | succ d ih =>
    intro k acc i h0 hd ha hk
    obtain ⟨k, rfl⟩ : ∃ m, k = m + 1 := ⟨k - 1, by omega⟩
    have h1 : i < (l.length : Int) := by omega
    have hm : te (rd_T27 l i) = 0 := by
      apply hl
      have : l.drop i.toNat = rd_T27 l i :: l.drop (i + 1).toNat := drop_rd l z27 h0 h1
      exact List.mem_of_mem_drop (by rw [this]; exact List.mem_cons_self)
    rw [drop_rd l z27 h0 h1]
    simp only [gauge_Element.l0]
    rw [if_pos h1, if_pos h0, if_pos h1, de_step hW hM h0 h1 rfl hm]
    by_cases hL : 1 ≤ (de W M (rd_T27 l i)).f2.f0
    · rw [if_pos hL]
      simp only [Option.bind_some, if_true]
      rw [if_pos (by omega), up64 h0 (by omega), ih k _ (i + 1) (by omega) (by omega) (by simp; omega) (by omega), low_ok (t := l.getD i.toNat z27) hL]
      by_cases hf : lowOk W M (l.drop (i + 1).toNat) = true
      · rw [if_pos hf, if_pos hf]; simp [rd_T27]
      · rw [if_neg hf, if_neg hf]
    · rw [if_neg hL, low_bad (t := l.getD i.toNat z27) hL]
      simp
theorem gdesign (k : Nat) (hk : 40 ≤ k) (l : List S27) (W M : Int) : gauge_Design.f k l W M = some (if dz W M l = 0 then l.map (de W M) else [], dz W M l) := by
  unfold gauge_Design.f dz
  rw [gvirtual k hk]
  by_cases hc : ce l = 0
  · rw [if_pos hc, if_pos hc]
    simp only [Option.bind_some, if_true]
    by_cases hr : 0 ≤ W ∧ W ≤ 100000 ∧ 0 ≤ M ∧ M ≤ 100000
    · rw [if_neg (show ¬ W < 0 by omega), if_neg (show ¬ 100000 < W by omega), if_neg (show ¬ M < 0 by omega), if_neg (show ¬ 100000 < M by omega), if_pos hr]
      obtain ⟨hn1, hn2, hl⟩ := ce_ok hc
      simp only [gauge_Element.f]
      rw [elem_l0 ⟨hr.1, hr.2.1⟩ hr.2.2 l (by omega) hl l.length k [] 0 (by omega) (by omega) (by simp; omega) (by omega)]
      by_cases hf : lowOk W M l = true
      · simp [hf]
      · simp [hf]
    · rw [if_neg hr]
      by_cases a1 : W < 0
      · rw [if_pos a1]; rfl
      · rw [if_neg a1]
        by_cases a2 : 100000 < W
        · rw [if_pos a2]; rfl
        · rw [if_neg a2]
          by_cases a3 : M < 0
          · rw [if_pos a3]; rfl
          · rw [if_neg a3, if_pos (show 100000 < M by omega)]; rfl
  · rw [if_neg hc, if_neg hc]
    simp only [Option.bind_some]
    rw [if_neg hc, if_neg hc]
end Go.Proofs.YtjemaonejkepcaaDoor.G
namespace Go.Proofs.YtjemaonejkepcaaDoor.G
open Go.Proofs.YtjemaonejkepcaaDoor.B
open Go.RowKit Go.Proofs.YtjemaonejkepcaaDoorW.PrintWords Go.Proofs.YtjemaonejkepcaaDoorW.PrintLast Go.Proofs.YtjemaonejkepcaaDoorW.PrintMore
attribute [local go_sem] max2_int min2_int max_two min_two max_three min_three max_four min_four   -- for this text's walks alone
set_option linter.unusedVariables false
set_option linter.unusedSimpArgs false
theorem eqA141 (d : Nat) (w : World) (x0 y0 : Int) (x1 y1 : Int) (x2 y2 : Bool) (x3 y3 : Int) (x4 y4 : Int) :
    (Op.equalIn (d + 3) 141 (.agg #[.int .i64 x0, .int .i64 x1, .bool x2, .int .i64 x3, .int .i64 x4]) (.agg #[.int .i64 y0, .int .i64 y1, .bool y2, .int .i64 y3, .int .i64 y4])).run Tryd.prog w = .ok ((x0 == y0 && (x1 == y1)) && (x2 == y2 && ((x3 == y3 && (x4 == y4))))) w := by
  refine eqA_of Tryd.underlying141 (by kernel_rfl) ?_
  refine eqf_cons (by rfl) (by go_simp) (by go_simp) (eqA23 (d + 0) w _ _ _ _) ?_
  refine eqf_cons (by rfl) (by go_simp; rfl) (by go_simp; rfl) (by go_simp) ?_
  exact eqf_last (by rfl) (by go_simp) (by go_simp) (eqA25 (d + 0) w _ _ _ _)
end Go.Proofs.YtjemaonejkepcaaDoor.G
namespace Go.Proofs.YtjemaonejkepcaaDoor.G
set_option linter.unusedVariables false
set_option linter.unusedSimpArgs false
open Go.Proofs.YtjemaonejkepcaaDoor.B
open Go.RowKit Go.Proofs.YtjemaonejkepcaaDoorW.PrintWords
/-- An element as one of the reference. -/
def el (x : S104) : S141 := ⟨⟨x.f0.f0, x.f0.f1⟩, x.f1, ⟨x.f2.f0, x.f2.f1⟩⟩
end Go.Proofs.YtjemaonejkepcaaDoor.G
namespace Go.Proofs.YtjemaonejkepcaaDoor.G
set_option linter.unusedVariables false
set_option linter.unusedSimpArgs false
open Go.Proofs.YtjemaonejkepcaaDoor.B
open Go.RowKit Go.Proofs.YtjemaonejkepcaaDoorW.PrintWords
/-- The error of the limits of an element. -/
def lim (lo hi : Int) : Int := if (1 ≤ lo ∧ lo ≤ 300000) ∧ (1 ≤ hi ∧ hi ≤ 300000) then (if lo > hi then 9 else 0) else 2
theorem granged (a : Int) : gauge_ranged.f a = some (decide (1 ≤ a ∧ a ≤ 300000)) := by
  unfold gauge_ranged.f
  by_cases h : a ≥ 1
  · rw [if_pos h]; simp; omega
  · rw [if_neg h]; simp; omega
theorem glimits (k : Nat) (hk : 1 ≤ k) (lo hi : Int) : gauge_limits.f k lo hi = some (lim lo hi) := by
  obtain ⟨k, rfl⟩ : ∃ m, k = m + 1 := ⟨k - 1, by omega⟩
  unfold gauge_limits.f lim
  simp only [granged, Option.bind_some, decide_eq_true_eq]
  by_cases A : 1 ≤ lo ∧ lo ≤ 300000
  · rw [if_pos A]
    simp only [gauge_limits.j0]
    by_cases B : 1 ≤ hi ∧ hi ≤ 300000
    · rw [if_pos (show (1 ≤ lo ∧ lo ≤ 300000) ∧ (1 ≤ hi ∧ hi ≤ 300000) from ⟨A, B⟩), decide_eq_true B, if_neg (by decide)]
      by_cases C : lo > hi
      · rw [if_pos C, if_pos C]
      · rw [if_neg C, if_neg C]
    · rw [if_neg (show ¬ ((1 ≤ lo ∧ lo ≤ 300000) ∧ (1 ≤ hi ∧ hi ≤ 300000)) from fun h => B h.2), decide_eq_false B, if_pos (by decide)]
  · rw [if_neg A, if_neg (show ¬ ((1 ≤ lo ∧ lo ≤ 300000) ∧ (1 ≤ hi ∧ hi ≤ 300000)) from fun h => A h.1)]
    simp only [gauge_limits.j0]
    rw [if_pos trivial]
theorem lim_ok {lo hi : Int} (h : lim lo hi = 0) : 1 ≤ lo ∧ lo ≤ hi ∧ hi ≤ 300000 := by
  unfold lim at h
  by_cases h1 : (1 ≤ lo ∧ lo ≤ 300000) ∧ (1 ≤ hi ∧ hi ≤ 300000)
  · rw [if_pos h1] at h
    by_cases h2 : lo > hi
    · rw [if_pos h2] at h; omega
    · omega
  · rw [if_neg h1] at h; omega
/-- The error of an element for a target; its losses. -/
def pe (t : S27) (x : S104) : Int := if lim x.f2.f0 x.f2.f1 = 0 then (if x.f0.f0 = t.f0.f0 ∧ x.f0.f1 = t.f0.f1 ∧ x.f1 = t.f4 then 0 else 16) else lim x.f2.f0 x.f2.f1
def pl (t : S27) (x : S104) : S25 := if x.f1 = true then ⟨tv t - x.f2.f1, tv t - x.f2.f0⟩ else ⟨x.f2.f0 - tv t, x.f2.f1 - tv t⟩
def fp : List S27 → List S104 → Int
  | t :: r, x :: s => if pe t x = 0 then fp r s else pe t x
  | _, _ => 0
theorem fp_ok {t : S27} {r : List S27} {x : S104} {s : List S104} (h : pe t x = 0) : fp (t :: r) (x :: s) = fp r s := by
  show (if pe t x = 0 then fp r s else pe t x) = _; rw [if_pos h]
theorem fp_bad {t : S27} {r : List S27} {x : S104} {s : List S104} (h : ¬ pe t x = 0) : fp (t :: r) (x :: s) = pe t x := by
  show (if pe t x = 0 then fp r s else pe t x) = _; rw [if_neg h]
theorem loss_1 (l : List S27) (g : List S104) (hl : ∀ t ∈ l, te t = 0) {i : Int} (h0 : 0 ≤ i) (h1 : i < (l.length : Int)) :
    ∃ a b, @gauge_losses_1.f (Dat109.mk l (l.map tv)) i (rd_T104 g i).f0.f0 (rd_T104 g i).f0.f1 (rd_T104 g i).f1 (rd_T104 g i).f2.f0 (rd_T104 g i).f2.f1 = some (a, b, pe (rd_T27 l i) (rd_T104 g i)) ∧ (pe (rd_T27 l i) (rd_T104 g i) = 0 → (⟨a, b⟩ : S25) = pl (rd_T27 l i) (rd_T104 g i)) := by
  have hs : i < ((l.map tv).length : Int) := by simpa using h1
  have hr : rd (l.map tv) i = tv (rd_T27 l i) := getD_map tv l z27 0 (by omega)
  have hdr : l.drop i.toNat = rd_T27 l i :: l.drop (i + 1).toNat := drop_rd l z27 h0 h1
  have hv := tv_range (hl _ (List.mem_of_mem_drop (by rw [hdr]; exact List.mem_cons_self)))
  unfold gauge_losses_1.f
  rw [if_pos h0]
  simp only
  rw [if_pos h1, if_pos hs, glimits 2 (by omega), hr]
  generalize rd_T27 l i = t at *
  generalize rd_T104 g i = x at *
  simp only [Option.bind_some]
  unfold pe pl
  by_cases hL : lim x.f2.f0 x.f2.f1 = 0
  · have hb := lim_ok hL
    rw [if_pos hL, if_pos hL]
    by_cases hc : x.f0.f0 = t.f0.f0 ∧ x.f0.f1 = t.f0.f1 ∧ x.f1 = t.f4
    · rw [if_pos hc, if_pos hc]
      cases hp : x.f1 with
      | true =>
        rw [if_pos rfl, if_pos rfl, w64 (n := tv t - x.f2.f1) (by omega), w64 (n := tv t - x.f2.f0) (by omega)]
        exact ⟨_, _, rfl, fun _ => rfl⟩
      | false =>
        rw [if_neg Bool.false_ne_true, if_neg Bool.false_ne_true, w64 (n := x.f2.f0 - tv t) (by omega), w64 (n := x.f2.f1 - tv t) (by omega)]
        exact ⟨_, _, rfl, fun _ => rfl⟩
    · rw [if_neg hc, if_neg hc]
      exact ⟨_, _, rfl, fun h => by omega⟩
  · rw [if_neg hL, if_neg hL]
    exact ⟨_, _, rfl, fun h => absurd h hL⟩
theorem lmap_l0 (l : List S27) (g : List S104) (hn : l.length ≤ 1000) (he : g.length = l.length) (hl : ∀ t ∈ l, te t = 0) (d : Nat) : ∀ (k : Nat) (acc : List S25) (i : Int), 0 ≤ i → (g.length : Int) - i = d → acc.length + d ≤ 1000 → d + 4 ≤ k →
    @api_Limits.l0 (Dat109.mk l (l.map tv)) k acc g (g.length : Int) i = some (if fp (l.drop i.toNat) (g.drop i.toNat) = 0 then (acc ++ List.zipWith pl (l.drop i.toNat) (g.drop i.toNat), 0) else ([], fp (l.drop i.toNat) (g.drop i.toNat))) := by
  induction d with
  | zero =>
    intro k acc i h0 hd ha hk
    obtain ⟨k, rfl⟩ : ∃ m, k = m + 1 := ⟨k - 1, by omega⟩
    rw [drop_end l (by omega), drop_end g (by omega)]
    simp only [api_Limits.l0]
    rw [if_neg (by omega)]; simp [fp]
  | succ d ih =>
    intro k acc i h0 hd ha hk
    obtain ⟨k, rfl⟩ : ∃ m, k = m + 1 := ⟨k - 1, by omega⟩
    have h1 : i < (g.length : Int) := by omega
    have h2 : i < (l.length : Int) := by omega
    rw [drop_rd l z27 h0 h2, drop_rd g z104 h0 h1]
    simp only [api_Limits.l0]
    rw [if_pos h1, if_pos h0, if_pos h1]
    obtain ⟨a, b, hv, hp⟩ := loss_1 l g hl h0 h2
    rw [hv]
    simp only [Option.bind_some]
    by_cases ht : pe (rd_T27 l i) (rd_T104 g i) = 0
    · rw [if_pos ht, if_pos (by omega), up64 h0 (by omega), ih k _ (i + 1) (by omega) (by omega) (by simp; omega) (by omega), hp ht, fp_ok (t := l.getD i.toNat z27) (x := g.getD i.toNat z104) ht]
      by_cases hf : fp (l.drop (i + 1).toNat) (g.drop (i + 1).toNat) = 0
      · rw [if_pos hf, if_pos hf]; simp [rd_T27, rd_T104]
      · rw [if_neg hf, if_neg hf]
    · rw [if_neg ht, fp_bad (t := l.getD i.toNat z27) (x := g.getD i.toNat z104) ht, if_neg (show ¬ pe (l.getD i.toNat z27) (g.getD i.toNat z104) = 0 from ht)]; rfl
/-- One of the losses is negative. -/
def neg : List S25 → Bool
  | [] => false
  | x :: r => decide (x.f0 < 0) || neg r
theorem lcheck_l0 (q : List S25) (hn : q.length ≤ 1000) (d : Nat) : ∀ (k : Nat) (i : Int), 0 ≤ i → (q.length : Int) - i = d → d < k →
    gauge_losses.l0 k q (q.length : Int) i = some (if neg (q.drop i.toNat) = true then ([], 15) else (q, 0)) := by
  induction d with
  | zero =>
    intro k i h0 hd hk
    obtain ⟨k, rfl⟩ : ∃ m, k = m + 1 := ⟨k - 1, by omega⟩
    rw [drop_end q (by omega)]
    simp only [gauge_losses.l0]
    rw [if_neg (by omega)]; simp [neg]
  | succ d ih =>
    intro k i h0 hd hk
    obtain ⟨k, rfl⟩ : ∃ m, k = m + 1 := ⟨k - 1, by omega⟩
    have h1 : i < (q.length : Int) := by omega
    rw [drop_rd q z25 h0 h1]
    simp only [gauge_losses.l0]
    rw [if_pos h1, if_pos h0, if_pos h1]
    have hd1 : neg (q.getD i.toNat z25 :: q.drop (i + 1).toNat) = (decide ((rd_T25 q i).f0 < 0) || neg (q.drop (i + 1).toNat)) := rfl
    rw [hd1]
    by_cases hL : (rd_T25 q i).f0 < 0
    · rw [if_pos hL, decide_eq_true hL]; simp
    · rw [if_neg hL, decide_eq_false hL, up64 h0 (by omega), ih k (i + 1) (by omega) (by omega) (by omega)]; simp
/-- The error of the losses. -/
def lz (l : List S27) (g : List S104) : Int := if ce l = 0 then (if g.length = l.length then (if fp l g = 0 then (if neg (List.zipWith pl l g) = true then 15 else 0) else fp l g) else 8) else ce l
theorem glosses (k : Nat) (hk : 40 ≤ k) (l : List S27) (g : List S104) : gauge_losses.f k l g = some (if lz l g = 0 then List.zipWith pl l g else [], lz l g) := by
  unfold gauge_losses.f lz
  rw [gvirtual k hk]
  by_cases hc : ce l = 0
  · rw [if_pos hc, if_pos hc]
    simp only [Option.bind_some, if_true]
    obtain ⟨hn1, hn2, hl⟩ := ce_ok hc
    by_cases he : g.length = l.length
    · rw [if_pos (by omega), if_pos he]
      simp only [api_Limits.f]
      rw [lmap_l0 l g (by omega) he hl g.length k [] 0 (by omega) (by omega) (by simp; omega) (by omega)]
      simp only [Int.toNat_zero, List.drop_zero, List.nil_append, Option.bind_some]
      by_cases hf : fp l g = 0
      · rw [if_pos hf, if_pos hf]
        simp only [if_true]
        rw [lcheck_l0 _ (by simp; omega) (List.zipWith pl l g).length k 0 (by omega) (by omega) (by simp; omega)]
        simp only [Int.toNat_zero, List.drop_zero]
        by_cases hg : neg (List.zipWith pl l g) = true
        · rw [if_pos hg, if_pos hg]; rfl
        · rw [if_neg hg, if_neg hg]; rfl
      · rw [if_neg hf, if_neg hf]
        simp only
        rw [if_neg hf, if_neg hf]
    · rw [if_neg (by omega), if_neg he]; rfl
  · rw [if_neg hc, if_neg hc]
    simp only [Option.bind_some]
    rw [if_neg hc, if_neg hc]
theorem gsafe (k : Nat) (hk : 40 ≤ k) (l : List S27) (g : List S104) : gauge_Safe.f k l g = some (lz l g) := by
  unfold gauge_Safe.f
  rw [glosses k hk]; rfl
end Go.Proofs.YtjemaonejkepcaaDoor.G
namespace Go.Proofs.YtjemaonejkepcaaDoor.G
open Go.Proofs.YtjemaonejkepcaaDoor.B
open Go.RowKit Go.Proofs.YtjemaonejkepcaaDoorW.PrintWords Go.Proofs.YtjemaonejkepcaaDoorW.PrintLast Go.Proofs.YtjemaonejkepcaaDoorW.PrintMore
attribute [local go_sem] max2_int min2_int max_two min_two max_three min_three max_four min_four   -- for this text's walks alone
set_option linter.unusedVariables false
set_option linter.unusedSimpArgs false
theorem eqA142 (d : Nat) (w : World) (x0 y0 : Int) (x1 y1 : Int) (x2 y2 : Bool) (x3 y3 : Int) :
    (Op.equalIn (d + 3) 142 (.agg #[.int .i64 x0, .int .i64 x1, .bool x2, .int .i64 x3]) (.agg #[.int .i64 y0, .int .i64 y1, .bool y2, .int .i64 y3])).run Tryd.prog w = .ok ((x0 == y0 && (x1 == y1)) && (x2 == y2 && (x3 == y3))) w := by
  refine eqA_of Tryd.underlying142 (by kernel_rfl) ?_
  refine eqf_cons (by rfl) (by go_simp) (by go_simp) (eqA23 (d + 0) w _ _ _ _) ?_
  refine eqf_cons (by rfl) (by go_simp; rfl) (by go_simp; rfl) (by go_simp) ?_
  exact eqf_last (by rfl) (by go_simp; rfl) (by go_simp; rfl) (by go_simp)
end Go.Proofs.YtjemaonejkepcaaDoor.G
namespace Go.Proofs.YtjemaonejkepcaaDoor.G
set_option linter.unusedVariables false
set_option linter.unusedSimpArgs false
open Go.Proofs.YtjemaonejkepcaaDoor.B
open Go.RowKit Go.Proofs.YtjemaonejkepcaaDoorW.PrintWords Go.Proofs.YtjemaonejkepcaaDoorW.PrintMore
/-- A tool, made; a tool as one of the reference. -/
def mkt (high : Bool) (x : S104) : S56 := ⟨⟨x.f0.f0, x.f0.f1⟩, x.f1, if high = true then x.f2.f1 else x.f2.f0⟩
/-- The first error of the elements' limits. -/
def ge : List S104 → Int
  | [] => 0
  | x :: r => if lim x.f2.f0 x.f2.f1 = 0 then ge r else lim x.f2.f0 x.f2.f1
theorem ge_ok {x : S104} {r : List S104} (h : lim x.f2.f0 x.f2.f1 = 0) : ge (x :: r) = ge r := by
  show (if lim x.f2.f0 x.f2.f1 = 0 then ge r else lim x.f2.f0 x.f2.f1) = _; rw [if_pos h]
theorem ge_bad {x : S104} {r : List S104} (h : ¬ lim x.f2.f0 x.f2.f1 = 0) : ge (x :: r) = lim x.f2.f0 x.f2.f1 := by
  show (if lim x.f2.f0 x.f2.f1 = 0 then ge r else lim x.f2.f0 x.f2.f1) = _; rw [if_neg h]
def mz (g : List S104) : Int := if 16 < g.length then 5 else ge g
theorem made_1 (high : Bool) (i : Int) (x : S104) : ∃ a b c e, @gauge_Made_1.f (Dat86.mk high) i x.f0.f0 x.f0.f1 x.f1 x.f2.f0 x.f2.f1 = some (a, b, c, e, lim x.f2.f0 x.f2.f1) ∧ (lim x.f2.f0 x.f2.f1 = 0 → (⟨⟨a, b⟩, c, e⟩ : S56) = mkt high x) := by
  unfold gauge_Made_1.f mkt
  rw [glimits 2 (by omega)]
  simp only [Option.bind_some]
  by_cases h : lim x.f2.f0 x.f2.f1 = 0
  · rw [if_pos h, h]
    cases high with
    | true => rw [if_pos rfl]; exact ⟨_, _, _, _, rfl, fun _ => rfl⟩
    | false => rw [if_neg Bool.false_ne_true]; exact ⟨_, _, _, _, rfl, fun _ => rfl⟩
  · rw [if_neg h]; exact ⟨_, _, _, _, rfl, fun h2 => absurd h2 h⟩
theorem made_l0 (high : Bool) (g : List S104) (hn : g.length ≤ 1000) (d : Nat) : ∀ (k : Nat) (acc : List S56) (i : Int), 0 ≤ i → (g.length : Int) - i = d → acc.length + d ≤ 1000 → d < k →
    @gauge_Tool_85.l0 (Dat86.mk high) k acc g (g.length : Int) i = some (if ge (g.drop i.toNat) = 0 then (acc ++ (g.drop i.toNat).map (mkt high), 0) else ([], ge (g.drop i.toNat))) := by
  induction d with
  | zero =>
    intro k acc i h0 hd ha hk
    obtain ⟨k, rfl⟩ : ∃ m, k = m + 1 := ⟨k - 1, by omega⟩
    rw [drop_end g (by omega)]
    simp only [gauge_Tool_85.l0]
    rw [if_neg (by omega)]; simp [ge]
  | succ d ih =>
    intro k acc i h0 hd ha hk
    obtain ⟨k, rfl⟩ : ∃ m, k = m + 1 := ⟨k - 1, by omega⟩
    have h1 : i < (g.length : Int) := by omega
    rw [drop_rd g z104 h0 h1]
    simp only [gauge_Tool_85.l0]
    rw [if_pos h1, if_pos h0, if_pos h1]
    obtain ⟨a, b, c, e, hv, hp⟩ := made_1 high i (rd_T104 g i)
    rw [hv]
    simp only [Option.bind_some]
    by_cases ht : lim (rd_T104 g i).f2.f0 (rd_T104 g i).f2.f1 = 0
    · rw [if_pos ht, if_pos (by omega), up64 h0 (by omega), ih k _ (i + 1) (by omega) (by omega) (by simp; omega) (by omega), hp ht, ge_ok (x := g.getD i.toNat z104) ht]
      by_cases hf : ge (g.drop (i + 1).toNat) = 0
      · rw [if_pos hf, if_pos hf]; simp [rd_T104]
      · rw [if_neg hf, if_neg hf]
    · rw [if_neg ht, ge_bad (x := g.getD i.toNat z104) ht, if_neg (show ¬ lim (g.getD i.toNat z104).f2.f0 (g.getD i.toNat z104).f2.f1 = 0 from ht)]; rfl
theorem gmade (k : Nat) (hk : 40 ≤ k) (g : List S104) (high : Bool) : gauge_Made.f k g high = some (if mz g = 0 then g.map (mkt high) else [], mz g) := by
  unfold gauge_Made.f mz gauge_few.f
  by_cases h1 : 16 < g.length
  · rw [if_pos (show (g.length : Int) > 16 by omega), if_pos h1]; rfl
  · rw [if_neg (show ¬ (g.length : Int) > 16 by omega), if_neg h1]
    simp only [Option.bind_some, if_true, gauge_Tool_85.f]
    rw [made_l0 high g (by omega) g.length k [] 0 (by omega) (by omega) (by simp; omega) (by omega)]
    simp only [Int.toNat_zero, List.drop_zero, List.nil_append]
    by_cases hf : ge g = 0
    · rw [if_pos hf, if_pos hf, hf]
    · rw [if_neg hf, if_neg hf]
/-- The greatest loss. -/
def mxl : Int → List S25 → Int
  | m, [] => m
  | m, x :: r => mxl (mx m x.f1) r
theorem loss_l0 (q : List S25) (hn : q.length ≤ 1000) (d : Nat) : ∀ (k : Nat) (m i : Int), 0 ≤ i → (q.length : Int) - i = d → d < k → gauge_Loss.l0 k m q (q.length : Int) i = some (mxl m (q.drop i.toNat), 0) := by
  induction d with
  | zero =>
    intro k m i h0 hd hk
    obtain ⟨k, rfl⟩ : ∃ m, k = m + 1 := ⟨k - 1, by omega⟩
    rw [drop_end q (by omega)]
    simp only [gauge_Loss.l0]
    rw [if_neg (by omega)]; rfl
  | succ d ih =>
    intro k m i h0 hd hk
    obtain ⟨k, rfl⟩ : ∃ m, k = m + 1 := ⟨k - 1, by omega⟩
    have h1 : i < (q.length : Int) := by omega
    rw [drop_rd q z25 h0 h1]
    simp only [gauge_Loss.l0]
    rw [if_pos h1, if_pos h0, if_pos h1, up64 h0 (by omega), ih k _ (i + 1) (by omega) (by omega) (by omega)]; rfl
/-- The loss. -/
def lm (l : List S27) (g : List S104) : Int := if lz l g = 0 then mxl 0 (List.zipWith pl l g) else 0
theorem gloss (k : Nat) (hk : 40 ≤ k) (l : List S27) (g : List S104) : gauge_Loss.f k l g = some (lm l g, lz l g) := by
  unfold gauge_Loss.f lm
  rw [glosses k hk]
  simp only [Option.bind_some]
  by_cases h : lz l g = 0
  · rw [if_pos h, if_pos h, if_pos h]
    have hb : (List.zipWith pl l g).length ≤ 16 := by
      have : ce l = 0 := by
        unfold lz at h
        by_cases hc : ce l = 0
        · exact hc
        · rw [if_neg hc] at h; exact h
      have := (ce_ok this).2.1
      simp; omega
    rw [loss_l0 _ (by omega) (List.zipWith pl l g).length k 0 0 (by omega) (by omega) (by omega), h]; rfl
  · rw [if_neg h, if_neg h]
end Go.Proofs.YtjemaonejkepcaaDoor.G
namespace Go.Proofs.YtjemaonejkepcaaDoor.G
set_option linter.unusedVariables false
set_option linter.unusedSimpArgs false
open Go.Proofs.YtjemaonejkepcaaDoor.B
open Go.RowKit Go.Proofs.YtjemaonejkepcaaDoorW.PrintWords
theorem tv_is {t : S27} (h : te t = 0) : tv t = if t.f4 = true then t.f1.f1 + t.f2 else t.f1.f0 - t.f2 := by
  obtain ⟨_, hm⟩ := te_ok h
  unfold tv vir
  rw [hm]
  cases hp : t.f4 <;> simp
theorem tv_hole {t : S27} (h : te t = 0) (hp : t.f4 = false) : 1 ≤ tv t ∧ tv t ≤ 100000 := by
  obtain ⟨⟨h1, h2, h3, h4, h5, h6, h7, h8, h9⟩, hm⟩ := te_ok h
  rw [tv_is h, hp, if_neg Bool.false_ne_true]
  have := h8 hp
  omega
theorem tv_pin {t : S27} (h : te t = 0) (hp : t.f4 = true) : 1 ≤ tv t ∧ tv t ≤ 200000 := by
  obtain ⟨⟨h1, h2, h3, h4, h5, h6, h7, h8, h9⟩, hm⟩ := te_ok h
  rw [tv_is h, hp, if_pos rfl]
  omega
theorem de_lim {W M : Int} (hW : 0 ≤ W ∧ W ≤ 100000) (hM : 0 ≤ M ∧ M ≤ 100000) {t : S27} (h : te t = 0) (hL : 1 ≤ (de W M t).f2.f0) : lim (de W M t).f2.f0 (de W M t).f2.f1 = 0 := by
  unfold lim
  cases hp : t.f4 with
  | true =>
    have := tv_pin h hp
    have e : de W M t = ⟨⟨t.f0.f0, t.f0.f1⟩, true, ⟨tv t - W - M, tv t - W⟩⟩ := by unfold de; rw [if_pos hp]
    rw [e] at hL ⊢
    simp only at hL ⊢
    rw [if_pos (by omega), if_neg (by omega)]
  | false =>
    have := tv_hole h hp
    have e : de W M t = ⟨⟨t.f0.f0, t.f0.f1⟩, false, ⟨tv t + W, tv t + W + M⟩⟩ := by unfold de; rw [hp, if_neg Bool.false_ne_true]
    rw [e] at hL ⊢
    simp only at hL ⊢
    rw [if_pos (by omega), if_neg (by omega)]
theorem ge_de {W M : Int} (hW : 0 ≤ W ∧ W ≤ 100000) (hM : 0 ≤ M ∧ M ≤ 100000) : ∀ l : List S27, (∀ t ∈ l, te t = 0) → lowOk W M l = true → ge (l.map (de W M)) = 0
  | [], _, _ => rfl
  | t :: r, h, hL => by
    have h2 : (decide (1 ≤ (de W M t).f2.f0) && lowOk W M r) = true := hL
    rw [Bool.and_eq_true] at h2
    show ge (de W M t :: r.map (de W M)) = 0
    rw [ge_ok (de_lim hW hM (h t List.mem_cons_self) (of_decide_eq_true h2.1))]
    exact ge_de hW hM r (fun u hu => h u (List.mem_cons_of_mem _ hu)) h2.2
theorem low_mem {W M : Int} : ∀ {l : List S27}, lowOk W M l = true → ∀ t ∈ l, 1 ≤ (de W M t).f2.f0
  | [], _, t, ht => by cases ht
  | a :: r, h, t, ht => by
    have h2 : (decide (1 ≤ (de W M a).f2.f0) && lowOk W M r) = true := h
    rw [Bool.and_eq_true] at h2
    rcases List.mem_cons.1 ht with rfl | ht
    · exact of_decide_eq_true h2.1
    · exact low_mem h2.2 t ht
theorem mz_de {W M : Int} (hW : 0 ≤ W ∧ W ≤ 100000) (hM : 0 ≤ M ∧ M ≤ 100000) {l : List S27} (hn : l.length ≤ 16) (h : ∀ t ∈ l, te t = 0) (hL : lowOk W M l = true) : mz (l.map (de W M)) = 0 := by
  unfold mz
  rw [if_neg (by rw [List.length_map]; omega)]
  exact ge_de hW hM l h hL
/-- The tool of a right target. -/
def dt (high : Bool) (W M : Int) (t : S27) : S56 := mkt high (de W M t)
theorem dt_is (high : Bool) {W M : Int} (hW : 0 ≤ W) (hM : 0 ≤ M) (t : S27) : (dt high W M t).f0.f0 = t.f0.f0 ∧ (dt high W M t).f0.f1 = t.f0.f1 ∧ (dt high W M t).f1 = t.f4 ∧ (t.f4 = true → tv t - W - M ≤ (dt high W M t).f2 ∧ (dt high W M t).f2 ≤ tv t - W) ∧ (t.f4 = false → tv t + W ≤ (dt high W M t).f2 ∧ (dt high W M t).f2 ≤ tv t + W + M) := by
  unfold dt mkt
  cases hp : t.f4 with
  | true =>
    have e : de W M t = ⟨⟨t.f0.f0, t.f0.f1⟩, true, ⟨tv t - W - M, tv t - W⟩⟩ := by unfold de; rw [if_pos hp]
    rw [e]
    refine ⟨rfl, rfl, rfl, fun _ => ?_, fun h => absurd h (by decide)⟩
    cases high <;> simp <;> omega
  | false =>
    have e : de W M t = ⟨⟨t.f0.f0, t.f0.f1⟩, false, ⟨tv t + W, tv t + W + M⟩⟩ := by unfold de; rw [hp, if_neg Bool.false_ne_true]
    rw [e]
    refine ⟨rfl, rfl, rfl, fun h => absurd h (by decide), fun _ => ?_⟩
    cases high <;> simp <;> omega
end Go.Proofs.YtjemaonejkepcaaDoor.G
namespace Go.Proofs.YtjemaonejkepcaaDoor.G
set_option linter.unusedVariables false
set_option linter.unusedSimpArgs false
open Go.Proofs.YtjemaonejkepcaaDoor.B
open Go.RowKit Go.Proofs.YtjemaonejkepcaaDoorW.PrintWords Go.Proofs.YtjemaonejkepcaaDoorW.PrintMore
/-- The error of a tool for a target; whether it is worn. -/
def we (t : S27) (x : S56) : Int := if 1 ≤ x.f2 ∧ x.f2 ≤ 300000 then (if x.f0.f0 = t.f0.f0 ∧ x.f0.f1 = t.f0.f1 ∧ x.f1 = t.f4 then 0 else 16) else 2
def wb (t : S27) (x : S56) : Bool := if x.f1 = true then decide (x.f2 > tv t) else decide (x.f2 < tv t)
def fw : List S27 → List S56 → Int
  | t :: r, x :: s => if we t x = 0 then fw r s else we t x
  | _, _ => 0
theorem fw_ok {t : S27} {r : List S27} {x : S56} {s : List S56} (h : we t x = 0) : fw (t :: r) (x :: s) = fw r s := by
  show (if we t x = 0 then fw r s else we t x) = _; rw [if_pos h]
theorem fw_bad {t : S27} {r : List S27} {x : S56} {s : List S56} (h : ¬ we t x = 0) : fw (t :: r) (x :: s) = we t x := by
  show (if we t x = 0 then fw r s else we t x) = _; rw [if_neg h]
theorem worn_1 (l : List S27) (g : List S56) {i : Int} (h0 : 0 ≤ i) (h1 : i < (l.length : Int)) :
    ∃ a, @gauge_Worn_1.f (Dat89.mk l (l.map tv)) i (rd_T56 g i).f0.f0 (rd_T56 g i).f0.f1 (rd_T56 g i).f1 (rd_T56 g i).f2 = some (a, we (rd_T27 l i) (rd_T56 g i)) ∧ (we (rd_T27 l i) (rd_T56 g i) = 0 → a = wb (rd_T27 l i) (rd_T56 g i)) := by
  have hs : i < ((l.map tv).length : Int) := by simpa using h1
  have hr : rd (l.map tv) i = tv (rd_T27 l i) := getD_map tv l z27 0 (by omega)
  have hr' : rd (@Dat89.sz (Dat89.mk l (l.map tv))) i = tv (rd_T27 l i) := hr
  have hl' : rd_T27 (@Dat89.l (Dat89.mk l (l.map tv))) i = rd_T27 l i := rfl
  unfold gauge_Worn_1.f
  rw [if_pos h0, if_pos (show i < ((@Dat89.l (Dat89.mk l (l.map tv))).length : Int) from h1), if_pos (show i < ((@Dat89.sz (Dat89.mk l (l.map tv))).length : Int) from hs), granged, hr', hl']
  generalize rd_T27 l i = t at *
  generalize rd_T56 g i = x at *
  simp only [Option.bind_some, decide_eq_true_eq]
  unfold we wb
  by_cases hL : 1 ≤ x.f2 ∧ x.f2 ≤ 300000
  · rw [if_pos hL, if_pos hL]
    by_cases hc : x.f0.f0 = t.f0.f0 ∧ x.f0.f1 = t.f0.f1 ∧ x.f1 = t.f4
    · rw [if_pos hc, if_pos hc]
      cases hp : x.f1 with
      | true => rw [if_pos rfl, if_pos rfl]; exact ⟨_, rfl, fun _ => rfl⟩
      | false => rw [if_neg Bool.false_ne_true, if_neg Bool.false_ne_true]; exact ⟨_, rfl, fun _ => rfl⟩
    · rw [if_neg hc, if_neg hc]
      exact ⟨_, rfl, fun h => by omega⟩
  · rw [if_neg hL, if_neg hL]
    exact ⟨_, rfl, fun h => by omega⟩
theorem wmap_l0 (l : List S27) (g : List S56) (hn : l.length ≤ 1000) (he : g.length = l.length) (d : Nat) : ∀ (k : Nat) (acc : List Bool) (i : Int), 0 ≤ i → (g.length : Int) - i = d → acc.length + d ≤ 1000 → d + 4 ≤ k →
    @gauge_Tool_bool.l0 (Dat89.mk l (l.map tv)) k acc g (g.length : Int) i = some (if fw (l.drop i.toNat) (g.drop i.toNat) = 0 then (acc ++ List.zipWith wb (l.drop i.toNat) (g.drop i.toNat), 0) else ([], fw (l.drop i.toNat) (g.drop i.toNat))) := by
  induction d with
  | zero =>
    intro k acc i h0 hd ha hk
    obtain ⟨k, rfl⟩ : ∃ m, k = m + 1 := ⟨k - 1, by omega⟩
    rw [drop_end l (by omega), drop_end g (by omega)]
    simp only [gauge_Tool_bool.l0]
    rw [if_neg (by omega)]; simp [fw]
  | succ d ih =>
    intro k acc i h0 hd ha hk
    obtain ⟨k, rfl⟩ : ∃ m, k = m + 1 := ⟨k - 1, by omega⟩
    have h1 : i < (g.length : Int) := by omega
    have h2 : i < (l.length : Int) := by omega
    rw [drop_rd l z27 h0 h2, drop_rd g z56 h0 h1]
    simp only [gauge_Tool_bool.l0]
    rw [if_pos h1, if_pos h0, if_pos h1]
    obtain ⟨a, hv, hp⟩ := worn_1 l g h0 h2
    rw [hv]
    simp only [Option.bind_some]
    by_cases ht : we (rd_T27 l i) (rd_T56 g i) = 0
    · rw [if_pos ht, if_pos (by omega), up64 h0 (by omega), ih k _ (i + 1) (by omega) (by omega) (by simp; omega) (by omega), hp ht, fw_ok (t := l.getD i.toNat z27) (x := g.getD i.toNat z56) ht]
      by_cases hf : fw (l.drop (i + 1).toNat) (g.drop (i + 1).toNat) = 0
      · rw [if_pos hf, if_pos hf]; simp [rd_T27, rd_T56]
      · rw [if_neg hf, if_neg hf]
    · rw [if_neg ht, fw_bad (t := l.getD i.toNat z27) (x := g.getD i.toNat z56) ht, if_neg (show ¬ we (l.getD i.toNat z27) (g.getD i.toNat z56) = 0 from ht)]; rfl
/-- The places of what is true, counted from i. -/
def idxs : Int → List Bool → List Int
  | _, [] => []
  | i, b :: r => if b = true then i :: idxs (i + 1) r else idxs (i + 1) r
theorem worn_l0 (q : List Bool) (hn : q.length ≤ 1000) (d : Nat) : ∀ (k : Nat) (xs : List Int) (i : Int), 0 ≤ i → (q.length : Int) - i = d → xs.length + d ≤ 1000 → d < k → gauge_Worn.l0 k xs q (q.length : Int) i = some (xs ++ idxs i (q.drop i.toNat), 0) := by
  induction d with
  | zero =>
    intro k xs i h0 hd ha hk
    obtain ⟨k, rfl⟩ : ∃ m, k = m + 1 := ⟨k - 1, by omega⟩
    rw [drop_end q (by omega)]
    simp only [gauge_Worn.l0]
    rw [if_neg (by omega)]; simp [idxs]
  | succ d ih =>
    intro k xs i h0 hd ha hk
    obtain ⟨k, rfl⟩ : ∃ m, k = m + 1 := ⟨k - 1, by omega⟩
    have h1 : i < (q.length : Int) := by omega
    rw [drop_rd q false h0 h1]
    simp only [gauge_Worn.l0]
    rw [if_pos h1, if_pos h0, if_pos h1, up64 h0 (by omega)]
    have hx : idxs i (q.getD i.toNat false :: q.drop (i + 1).toNat) = if rdOf false q i = true then i :: idxs (i + 1) (q.drop (i + 1).toNat) else idxs (i + 1) (q.drop (i + 1).toNat) := rfl
    rw [hx]
    by_cases hb : rdOf false q i = true
    · rw [if_pos hb, if_pos hb, if_pos (show xs.length < 17592186044416 by omega), ih k _ (i + 1) (by omega) (by omega) (by simp; omega) (by omega)]; simp
    · rw [if_neg hb, if_neg hb, ih k _ (i + 1) (by omega) (by omega) (by omega) (by omega)]
/-- The error of Worn; the worn ones. -/
def wz (l : List S27) (g : List S56) : Int := if ce l = 0 then (if g.length = l.length then fw l g else 8) else ce l
def wo (l : List S27) (g : List S56) : List Int := if wz l g = 0 then idxs 0 (List.zipWith wb l g) else []
theorem gworn (k : Nat) (hk : 40 ≤ k) (l : List S27) (g : List S56) : gauge_Worn.f k l g = some (wo l g, wz l g) := by
  unfold gauge_Worn.f wo wz
  rw [gvirtual k hk]
  by_cases hc : ce l = 0
  · rw [if_pos hc, if_pos hc]
    simp only [Option.bind_some, if_true]
    obtain ⟨hn1, hn2, hl⟩ := ce_ok hc
    by_cases he : g.length = l.length
    · rw [if_pos (by omega), if_pos he]
      simp only [gauge_Tool_bool.f]
      rw [wmap_l0 l g (by omega) he g.length k [] 0 (by omega) (by omega) (by simp; omega) (by omega)]
      simp only [Int.toNat_zero, List.drop_zero, List.nil_append, Option.bind_some]
      by_cases hf : fw l g = 0
      · rw [if_pos hf, if_pos hf, hf]
        simp only [if_true]
        rw [worn_l0 _ (by simp; omega) (List.zipWith wb l g).length k [] 0 (by omega) (by omega) (by simp; omega) (by simp; omega)]
        simp
      · rw [if_neg hf, if_neg hf]
        simp only
        rw [if_neg hf]
    · rw [if_neg (by omega), if_neg he]; rfl
  · rw [if_neg hc, if_neg hc]
    simp only [Option.bind_some]
    rw [if_neg hc, if_neg hc]
end Go.Proofs.YtjemaonejkepcaaDoor.G
namespace Go.Proofs.YtjemaonejkepcaaDoor.G
set_option linter.unusedVariables false
set_option linter.unusedSimpArgs false
open Go.RowKit Go.Proofs.YtjemaonejkepcaaDoorW.PrintWords
/-- A tool with another size. -/
def withSize (x : S56) (s : Int) : S56 := ⟨⟨x.f0.f0, x.f0.f1⟩, x.f1, s⟩
theorem tool_at {W : World} {base g n cap : Nat} {xs : List S56} (HO : Kd.R k56 56 W base (fun _ => True) (.slice (some ⟨g, 0, none⟩) n cap) xs) {i : Int} (h0 : 0 ≤ i) (h1 : i < (n : Int)) :
    W.cell? ⟨g, i.toNat * 4, none⟩ = some (.int .i64 (rd_T56 xs i).f0.f0) ∧ W.cell? ⟨g, i.toNat * 4 + 1, none⟩ = some (.int .i64 (rd_T56 xs i).f0.f1) ∧ W.cell? ⟨g, i.toNat * 4 + 2, none⟩ = some (.bool (rd_T56 xs i).f1) ∧ W.cell? ⟨g, i.toNat * 4 + 3, none⟩ = some (.int .i64 (rd_T56 xs i).f2) ∧ W.frozen? ⟨g, i.toNat * 4 + 3, none⟩ = false := by
  obtain ⟨c, hcl, hM, hcc, hfr⟩ := Kd.R_elem HO z56 i h0 h1
  obtain rfl := k56_openM hM
  exact ⟨hcc 0 _ rfl, hcc 1 _ rfl, hcc 2 _ rfl, hcc 3 _ rfl, hfr 3⟩
theorem put_size {W : World} {base g n cap : Nat} {xs : List S56} (HO : Kd.R k56 56 W base (fun _ => True) (.slice (some ⟨g, 0, none⟩) n cap) xs) {i : Int} (h0 : 0 ≤ i) (h1 : i < (n : Int)) (s : Int) :
    Kd.R k56 56 (W.setCell ⟨g, i.toNat * 4 + 3, none⟩ (.int .i64 s)) base (fun _ => True) (.slice (some ⟨g, 0, none⟩) n cap) (xs.set i.toNat (withSize (rd_T56 xs i) s)) ∧ W.grownBy (W.setCell ⟨g, i.toNat * 4 + 3, none⟩ (.int .i64 s)) (some g) := by
  obtain ⟨c, hcl, hM, hcc, hfr⟩ := Kd.R_elem HO z56 i h0 h1
  obtain rfl := k56_openM hM
  exact Kd.R_seg HO i h0 h1 (seg := [.int .i64 s]) (j := 3) hcl hcc (show 4 ≤ 4 from by decide) (x' := withSize (rd_T56 xs i) s) (k56_mkM _ _ _ (withSize (rd_T56 xs i) s)) (fun _ hk => hk)
end Go.Proofs.YtjemaonejkepcaaDoor.G
namespace Go.Proofs.YtjemaonejkepcaaDoor.G
set_option linter.unusedVariables false
set_option linter.unusedSimpArgs false
open Go.Proofs.YtjemaonejkepcaaDoor.B
open Go.RowKit Go.Proofs.YtjemaonejkepcaaDoorW.PrintWords Go.Proofs.YtjemaonejkepcaaDoorW.PrintMore
theorem dz_ok {W M : Int} {l : List S27} (hd : dz W M l = 0) : ce l = 0 ∧ (0 ≤ W ∧ W ≤ 100000) ∧ (0 ≤ M ∧ M ≤ 100000) ∧ lowOk W M l = true := by
  unfold dz at hd
  by_cases hc : ce l = 0
  · rw [if_pos hc] at hd
    by_cases hx : 0 ≤ W ∧ W ≤ 100000 ∧ 0 ≤ M ∧ M ≤ 100000
    · rw [if_pos hx] at hd
      by_cases hL : lowOk W M l = true
      · exact ⟨hc, ⟨hx.1, hx.2.1⟩, hx.2.2, hL⟩
      · rw [if_neg hL] at hd; omega
    · rw [if_neg hx] at hd; omega
  · rw [if_neg hc] at hd; exact absurd hd hc
theorem de_pe {W M : Int} (hW : 0 ≤ W ∧ W ≤ 100000) (hM : 0 ≤ M ∧ M ≤ 100000) {t : S27} (h : te t = 0) (hL : 1 ≤ (de W M t).f2.f0) : pe t (de W M t) = 0 ∧ pl t (de W M t) = ⟨W, W + M⟩ := by
  have hl := de_lim hW hM h hL
  unfold pe pl
  rw [if_pos hl]
  cases hp : t.f4 with
  | true =>
    have e : de W M t = ⟨⟨t.f0.f0, t.f0.f1⟩, true, ⟨tv t - W - M, tv t - W⟩⟩ := by unfold de; rw [if_pos hp]
    rw [e]
    refine ⟨if_pos ⟨rfl, rfl, rfl⟩, ?_⟩
    rw [if_pos rfl]
    simp only [S25.mk.injEq]
    omega
  | false =>
    have e : de W M t = ⟨⟨t.f0.f0, t.f0.f1⟩, false, ⟨tv t + W, tv t + W + M⟩⟩ := by unfold de; rw [hp, if_neg Bool.false_ne_true]
    rw [e]
    refine ⟨if_pos ⟨rfl, rfl, rfl⟩, ?_⟩
    rw [if_neg Bool.false_ne_true]
    simp only [S25.mk.injEq]
    omega
theorem fp_de {W M : Int} (hW : 0 ≤ W ∧ W ≤ 100000) (hM : 0 ≤ M ∧ M ≤ 100000) : ∀ l : List S27, (∀ t ∈ l, te t = 0) → (∀ t ∈ l, 1 ≤ (de W M t).f2.f0) → fp l (l.map (de W M)) = 0 ∧ List.zipWith pl l (l.map (de W M)) = l.map (fun _ => (⟨W, W + M⟩ : S25))
  | [], _, _ => ⟨rfl, rfl⟩
  | t :: r, h, hL => by
    obtain ⟨h1, h2⟩ := de_pe hW hM (h t List.mem_cons_self) (hL t List.mem_cons_self)
    obtain ⟨i1, i2⟩ := fp_de hW hM r (fun u hu => h u (List.mem_cons_of_mem _ hu)) (fun u hu => hL u (List.mem_cons_of_mem _ hu))
    refine ⟨?_, ?_⟩
    · show fp (t :: r) (de W M t :: r.map (de W M)) = 0
      rw [fp_ok h1, i1]
    · show pl t (de W M t) :: List.zipWith pl r (r.map (de W M)) = ⟨W, W + M⟩ :: r.map (fun _ => (⟨W, W + M⟩ : S25))
      rw [h2, i2]
theorem neg_all {W M : Int} (hW : 0 ≤ W) : ∀ l : List S27, neg (l.map (fun _ => (⟨W, W + M⟩ : S25))) = false
  | [] => rfl
  | t :: r => by
    show (decide (W < 0) || neg (r.map (fun _ => (⟨W, W + M⟩ : S25)))) = false
    rw [neg_all hW r, decide_eq_false (by omega)]; rfl
theorem mxl_all {W M : Int} (h : 0 ≤ W + M) : ∀ (l : List S27) (m : Int), m = W + M ∨ (m = 0 ∧ l ≠ []) → mxl m (l.map (fun _ => (⟨W, W + M⟩ : S25))) = W + M
  | [], m, hm => by
    rcases hm with hm | hm
    · exact hm
    · exact absurd rfl hm.2
  | t :: r, m, hm => by
    show mxl (mx m (W + M)) (r.map (fun _ => (⟨W, W + M⟩ : S25))) = W + M
    refine mxl_all h r _ (Or.inl ?_)
    unfold mx
    rcases hm with hm | hm
    · rw [hm]; simp
    · rw [hm.1]; split <;> omega
theorem lasts_loss {W M : Int} {l : List S27} (hd : dz W M l = 0) : lz l (l.map (de W M)) = 0 ∧ lm l (l.map (de W M)) = W + M := by
  obtain ⟨hc, hW, hM, hL⟩ := dz_ok hd
  obtain ⟨hn1, hn2, hl⟩ := ce_ok hc
  obtain ⟨f1, f2⟩ := fp_de hW hM l hl (low_mem hL)
  have h0 : lz l (l.map (de W M)) = 0 := by
    unfold lz
    rw [if_pos hc, if_pos (by simp), if_pos f1, f2, neg_all hW.1, if_neg Bool.false_ne_true]
  refine ⟨h0, ?_⟩
  unfold lm
  rw [if_pos h0, f2]
  exact mxl_all (by omega) l 0 (Or.inr ⟨rfl, fun e => by rw [e] at hn1; simp at hn1⟩)
/-- A tool that wears by k; one that wears by one more than it may. -/
def U (k : Int) (x : S56) : S56 := withSize x (if x.f1 = true then x.f2 + k else x.f2 - k)
def V (W : Int) (x : S56) : S56 := if x.f1 = true then x else withSize x (x.f2 - (W + 1))
/-- The tools of a design. -/
def D (high : Bool) (W M : Int) (l : List S27) : List S56 := l.map (dt high W M)
theorem D_is (high : Bool) (W M : Int) (l : List S27) : (l.map (de W M)).map (mkt high) = D high W M l := by rw [List.map_map]; rfl
theorem U_ok {W M : Int} (hW : 0 ≤ W ∧ W ≤ 100000) (hM : 0 ≤ M ∧ M ≤ 100000) (high : Bool) {k : Int} (hk : 0 ≤ k ∧ k ≤ W) {t : S27} (h : te t = 0) (hs : 1 ≤ (U k (dt high W M t)).f2) : we t (U k (dt high W M t)) = 0 ∧ wb t (U k (dt high W M t)) = false := by
  obtain ⟨e1, e2, e3, e4, e5⟩ := dt_is high hW.1 hM.1 t
  generalize dt high W M t = x at *
  have hf : (U k x).f0.f0 = x.f0.f0 ∧ (U k x).f0.f1 = x.f0.f1 ∧ (U k x).f1 = x.f1 ∧ (U k x).f2 = if x.f1 = true then x.f2 + k else x.f2 - k := ⟨rfl, rfl, rfl, rfl⟩
  generalize U k x = y at *
  obtain ⟨g1, g2, g3, g4⟩ := hf
  unfold we wb
  rw [g1, g2, g3, e1, e2, e3]
  cases hp : t.f4 with
  | true =>
    have hv := tv_pin h hp
    have := e4 hp
    rw [e3, hp, if_pos rfl] at g4
    rw [if_pos (by omega), if_pos ⟨rfl, rfl, rfl⟩, if_pos rfl]
    exact ⟨rfl, decide_eq_false (by omega)⟩
  | false =>
    have hv := tv_hole h hp
    have := e5 hp
    rw [e3, hp, if_neg Bool.false_ne_true] at g4
    rw [if_pos (by omega), if_pos ⟨rfl, rfl, rfl⟩, if_neg Bool.false_ne_true]
    exact ⟨rfl, decide_eq_false (by omega)⟩
theorem fw_U {W M : Int} (hW : 0 ≤ W ∧ W ≤ 100000) (hM : 0 ≤ M ∧ M ≤ 100000) (high : Bool) {k : Int} (hk : 0 ≤ k ∧ k ≤ W) : ∀ (l : List S27) (i : Int), (∀ t ∈ l, te t = 0) → (∀ x ∈ (D high W M l).map (U k), 1 ≤ x.f2) → fw l ((D high W M l).map (U k)) = 0 ∧ idxs i (List.zipWith wb l ((D high W M l).map (U k))) = []
  | [], _, _, _ => ⟨rfl, rfl⟩
  | t :: r, i, h, hs => by
    have h1 : 1 ≤ (U k (dt high W M t)).f2 := hs _ List.mem_cons_self
    obtain ⟨h2, h3⟩ := U_ok hW hM high hk (h t List.mem_cons_self) h1
    obtain ⟨i1, i2⟩ := fw_U hW hM high hk r (i + 1) (fun u hu => h u (List.mem_cons_of_mem _ hu)) (fun u hu => hs u (List.mem_cons_of_mem _ hu))
    refine ⟨?_, ?_⟩
    · show fw (t :: r) (U k (dt high W M t) :: (D high W M r).map (U k)) = 0
      rw [fw_ok h2, i1]
    · show (if wb t (U k (dt high W M t)) = true then i :: idxs (i + 1) (List.zipWith wb r ((D high W M r).map (U k))) else idxs (i + 1) (List.zipWith wb r ((D high W M r).map (U k)))) = []
      rw [h3, if_neg Bool.false_ne_true, i2]
theorem lasts_worn {W M : Int} {l : List S27} (hd : dz W M l = 0) (high : Bool) {k : Int} (hk : 0 ≤ k ∧ k ≤ W) (hs : ∀ x ∈ (D high W M l).map (U k), 1 ≤ x.f2) : wz l ((D high W M l).map (U k)) = 0 ∧ wo l ((D high W M l).map (U k)) = [] := by
  obtain ⟨hc, hW, hM, hL⟩ := dz_ok hd
  obtain ⟨hn1, hn2, hl⟩ := ce_ok hc
  obtain ⟨f1, f2⟩ := fw_U hW hM high hk l 0 hl hs
  have h0 : wz l ((D high W M l).map (U k)) = 0 := by
    unfold wz
    rw [if_pos hc, if_pos (by simp [D]), f1]
  exact ⟨h0, by unfold wo; rw [if_pos h0, f2]⟩
end Go.Proofs.YtjemaonejkepcaaDoor.G
namespace Go.Proofs.YtjemaonejkepcaaDoor.G
open Go.Proofs.YtjemaonejkepcaaDoor.B
open Go.RowKit Go.Proofs.YtjemaonejkepcaaDoorW.PrintWords Go.Proofs.YtjemaonejkepcaaDoorW.PrintLast Go.Proofs.YtjemaonejkepcaaDoorW.PrintMore
attribute [local go_sem] max2_int min2_int max_two min_two max_three min_three max_four min_four   -- for this text's walks alone
set_option linter.unusedVariables false
set_option linter.unusedSimpArgs false
def metrolablaw47_sign.f (a0_0 : Int) (a0_1 : Int) (a0_2 : Bool) (a0_3 : Int) : Option (Int) := if a0_2 = true then (some 1) else (some (-1))
set_option maxHeartbeats 8000000 in
set_option maxRecDepth 100000 in
theorem metrolablaw47_sign.calls (a0_0 : Int) (a0_1 : Int) (a0_2 : Bool) (a0_3 : Int) (r : Int) (w : World) (h : metrolablaw47_sign.f a0_0 a0_1 a0_2 a0_3 = some r) :
    Calls Tryd.prog 35 #[.agg #[.int .i64 a0_0, .int .i64 a0_1, .bool a0_2, .int .i64 a0_3]] w fun e w' => e = .returned (.int .i64 r) ∧ Below w.heap.size w w' := by
  have hu56 := Tryd.underlying56
  have HB := Aside0.mk (Below.refl w.heap.size w)
  have H : (if a0_2 = true then (some 1) else (some (-1))) = some r := h
  clear h
  by_cases c2 : a0_2 = true
  · subst c2
    have H1 : (some 1) = some r := by rw [if_pos rfl] at H; exact H
    clear H
    have H := H1
    clear H1
    obtain rfl := Option.some.inj H
    go_enter Tryd.func35, Tryd.ntmps35
    go_wp2_with (first | ((with_reducible refine gate_dst (N := 1) rfl ?_); refine box_event ?hg (N := 1) ?hd (cs := #[.int .i64 a0_0, .int .i64 a0_1, .bool true, .int .i64 a0_3]) (t := 56) ?hr ?_; (case hd => rfl); (case hg => rfl); (case hr => first | (go_simp; done) | (go_simp; rfl)); intro gb201 hg w3 hbox hb; have n0_ := Aside0.mk (below_step (by repeat (first | (with_reducible first | exact HB.out | apply below_alloc | apply pw_below_drewN | apply below_drew1) | exact HB.out)) hb); have n1_ := Aside0.mk (hbox); have n2_ := Aside0.mk ((by rw [hg]; exact (below_size (by repeat (first | (with_reducible first | exact HB.out | apply below_alloc | apply pw_below_drewN | apply below_drew1) | exact HB.out))) : w.heap.size ≤ gb201)); have n3_ := Aside0.mk ((by rw [hg]; exact (below_size (by repeat (first | (with_reducible first | exact HB.out | apply below_alloc | apply pw_below_drewN | apply below_drew1) | exact HB.out))) : w.heap.size ≤ gb201)); clear HB; have HB := n0_; have BK201 := n1_; have GW201 := n2_; have GE201 := n3_; clear n0_ n1_ n2_ n3_; clear hb hbox hg; have hcz4_0 : w3.cell? ⟨gb201, 0, none⟩ = some (.int .i64 a0_0) := (blk_cell BK201.out 0).trans rfl; have hcz4_1 : w3.cell? ⟨gb201, 1, none⟩ = some (.int .i64 a0_1) := (blk_cell BK201.out 1).trans rfl; have hcz4_2 : w3.cell? ⟨gb201, 2, none⟩ = some (.bool true) := (blk_cell BK201.out 2).trans rfl; have hcz4_3 : w3.cell? ⟨gb201, 3, none⟩ = some (.int .i64 a0_3) := (blk_cell BK201.out 3).trans rfl; have hfz4_0 := blk_frozen BK201.out 0; have hfz4_1 := blk_frozen BK201.out 1; have hfz4_2 := blk_frozen BK201.out 2; have hfz4_3 := blk_frozen BK201.out 3))
    go_ret
    exact ⟨by first | rfl | (simp [errW_none, errW_some] <;> rfl) | (simp [*, errW_none, errW_some] <;> rfl), by repeat (first | (with_reducible first | exact HB.out | apply below_alloc | apply pw_below_drewN | apply below_drew1 | refine below_set ?_ GE201.out) | exact HB.out)⟩
  · replace c2 := Bool.eq_false_iff.mpr c2
    subst c2
    have H1 : (some (-1)) = some r := by rw [if_neg (show ¬ (false = true) by decide)] at H; exact H
    clear H
    have H := H1
    clear H1
    obtain rfl := Option.some.inj H
    go_enter Tryd.func35, Tryd.ntmps35
    go_wp2_with (first | ((with_reducible refine gate_dst (N := 1) rfl ?_); refine box_event ?hg (N := 1) ?hd (cs := #[.int .i64 a0_0, .int .i64 a0_1, .bool false, .int .i64 a0_3]) (t := 56) ?hr ?_; (case hd => rfl); (case hg => rfl); (case hr => first | (go_simp; done) | (go_simp; rfl)); intro gb201 hg w5 hbox hb; have n0_ := Aside0.mk (below_step (by repeat (first | (with_reducible first | exact HB.out | apply below_alloc | apply pw_below_drewN | apply below_drew1) | exact HB.out)) hb); have n1_ := Aside0.mk (hbox); have n2_ := Aside0.mk ((by rw [hg]; exact (below_size (by repeat (first | (with_reducible first | exact HB.out | apply below_alloc | apply pw_below_drewN | apply below_drew1) | exact HB.out))) : w.heap.size ≤ gb201)); have n3_ := Aside0.mk ((by rw [hg]; exact (below_size (by repeat (first | (with_reducible first | exact HB.out | apply below_alloc | apply pw_below_drewN | apply below_drew1) | exact HB.out))) : w.heap.size ≤ gb201)); clear HB; have HB := n0_; have BK201 := n1_; have GW201 := n2_; have GE201 := n3_; clear n0_ n1_ n2_ n3_; clear hb hbox hg; have hcz6_0 : w5.cell? ⟨gb201, 0, none⟩ = some (.int .i64 a0_0) := (blk_cell BK201.out 0).trans rfl; have hcz6_1 : w5.cell? ⟨gb201, 1, none⟩ = some (.int .i64 a0_1) := (blk_cell BK201.out 1).trans rfl; have hcz6_2 : w5.cell? ⟨gb201, 2, none⟩ = some (.bool false) := (blk_cell BK201.out 2).trans rfl; have hcz6_3 : w5.cell? ⟨gb201, 3, none⟩ = some (.int .i64 a0_3) := (blk_cell BK201.out 3).trans rfl; have hfz6_0 := blk_frozen BK201.out 0; have hfz6_1 := blk_frozen BK201.out 1; have hfz6_2 := blk_frozen BK201.out 2; have hfz6_3 := blk_frozen BK201.out 3))
    go_ret
    exact ⟨by first | rfl | (simp [errW_none, errW_some] <;> rfl) | (simp [*, errW_none, errW_some] <;> rfl), by repeat (first | (with_reducible first | exact HB.out | apply below_alloc | apply pw_below_drewN | apply below_drew1 | refine below_set ?_ GE201.out) | exact HB.out)⟩
def metrolablaw47_pins.l0 : Nat → Int → List (S56) → Int → Int → Option (Int)
  | 0, _, _, _, _ => none
  | k + 1, x3, x6, x7, x8 => if x8 < x7 then (if 0 ≤ x8 then (if x8 < (x6.length : Int) then (if ((rd_T56 x6 x8).f1 = true) then (metrolablaw47_pins.l0 k x3 x6 x7 (wrap64 (x8 + 1))) else (metrolablaw47_pins.l0 k (wrap64 (x3 + 1)) x6 x7 (wrap64 (x8 + 1)))) else (none)) else (none)) else (some x3)
def metrolablaw47_pins.f (k : Nat) (l0 : List (S56)) : Option (Int) := metrolablaw47_pins.l0 k 0 l0 (l0.length : Int) 0
theorem metrolablaw47_pins.mono_l : ∀ k, (∀ y0 y1 y2 y3, LeO (metrolablaw47_pins.l0 k y0 y1 y2 y3) (metrolablaw47_pins.l0 (k + 1) y0 y1 y2 y3))
  | 0 => fun _ _ _ _ r h => by simp [metrolablaw47_pins.l0] at h
  | k + 1 => by
    have ih0 := metrolablaw47_pins.mono_l k
    · intro y0 y1 y2 y3
      unfold metrolablaw47_pins.l0
      repeat' first
      | (with_reducible exact ih0 _ _ _ _)
      | (with_reducible exact LeO.refl _)
      | (with_reducible exact LeO.none _)
      | (with_reducible refine LeO.ite ?_ ?_)
      | (with_reducible refine LeO.bind ?_ (fun _ => ?_))
      | exact ih0 _ _ _ _
      | exact LeO.none _
      | refine LeO.ite ?_ ?_
      | refine LeO.bind ?_ (fun _ => ?_)
theorem metrolablaw47_pins.mono : ∀ a0 k, LeO (metrolablaw47_pins.f k a0) (metrolablaw47_pins.f (k + 1) a0) := by
  intro a0 k
  have ih0 := metrolablaw47_pins.mono_l k
  unfold metrolablaw47_pins.f
  repeat' first
      | (with_reducible exact ih0 _ _ _ _)
      | (with_reducible exact LeO.refl _)
      | (with_reducible exact LeO.none _)
      | (with_reducible refine LeO.ite ?_ ?_)
      | (with_reducible refine LeO.bind ?_ (fun _ => ?_))
      | exact ih0 _ _ _ _
      | exact LeO.none _
      | refine LeO.ite ?_ ?_
      | refine LeO.bind ?_ (fun _ => ?_)
set_option maxHeartbeats 8000000 in
set_option maxRecDepth 100000 in
theorem metrolablaw47_pins.calls (k : Nat) (A0 : Option Addr) (c0 : Nat) (l0 : List (S56)) (r : Int) (w : World) (hr0 : Kd.C k56 w A0 l0.length l0) (hc0 : l0.length ≤ c0) (h : metrolablaw47_pins.f k l0 = some r) :
    Calls Tryd.prog 41 #[.slice A0 l0.length c0] w fun e w' => e = .returned (.int .i64 r) ∧ Below w.heap.size w w' := by
  have hu56 := Tryd.underlying56
  have HR0 := Aside0.mk hr0
  have HC0 := Aside0.mk hc0
  clear hr0 hc0
  have HB := Aside0.mk (Below.refl w.heap.size w)
  have H : (metrolablaw47_pins.l0 k 0 l0 (l0.length : Int) 0) = some r := h
  clear h
  have H' := Aside0.mk H
  clear H
  go_enter Tryd.func41, Tryd.ntmps41
  go_wp2
  go_loopg [3, 8] k (fun kq v3 v8 w' => ∃ (x3_1 : Int) (x8_1 : Int), v3 = .int .i64 x3_1 ∧ v8 = .int .i64 x8_1 ∧ Aside0 (metrolablaw47_pins.l0 kq x3_1 l0 (l0.length : Int) x8_1 = some r) ∧ Aside0 (kq ≤ k) ∧ Aside0 (Below w.heap.size w w'))
  case atStart => exact ⟨(0), (0), (by first | rfl | (simp; done) | (simp [*]; done)), (by first | rfl | (simp; done) | (simp [*]; done)), H', ⟨Nat.le_refl _⟩, ⟨by repeat (first | (with_reducible first | exact HB.out | apply below_alloc | apply pw_below_drewN | apply below_drew1) | exact HB.out)⟩⟩
  case round =>
    clear H'
    obtain ⟨x3_1, x8_1, rfl, rfl, HA, HK1, HB⟩ := hrel
    cases gk with
    | zero => exact absurd HA.out (by simp [metrolablaw47_pins.l0])
    | succ k1 =>
      have H := HA.out
      clear HA
      simp only [metrolablaw47_pins.l0] at H
      by_cases c2 : x8_1 < (l0.length : Int)
      · rw [if_pos c2] at H
        have c2b0 : decide (x8_1 < (l0.length : Int)) = true := decide_eq_true c2
        clear c2
        by_cases c3 : 0 ≤ x8_1
        · rw [if_pos c3] at H
          have c3b0 : decide (0 ≤ x8_1) = true := decide_eq_true c3
          clear c3
          by_cases c4 : x8_1 < (l0.length : Int)
          · rw [if_pos c4] at H
            have c4b0 : decide (x8_1 < (l0.length : Int)) = true := decide_eq_true c4
            clear c4
            obtain ⟨bq5, hbq5⟩ : ∃ b_ : Bool, b_ = ((rd_T56 l0 x8_1).f1) := ⟨_, rfl⟩
            replace H : (if (bq5 = true) then (metrolablaw47_pins.l0 k1 x3_1 l0 (l0.length : Int) (wrap64 (x8_1 + 1))) else (metrolablaw47_pins.l0 k1 (wrap64 (x3_1 + 1)) l0 (l0.length : Int) (wrap64 (x8_1 + 1)))) = some r := by rw [← hbq5] at H; exact H
            have Nbq5 := Aside0.mk hbq5
            clear hbq5
            by_cases c6 : (bq5 = true)
            · subst c6
              have H1 : (metrolablaw47_pins.l0 k1 x3_1 l0 (l0.length : Int) (wrap64 (x8_1 + 1))) = some r := by rw [if_pos rfl] at H; exact H
              clear H
              have H := H1
              clear H1
              have H' := Aside0.mk H
              clear H
              have p209 : 0 ≤ (x8_1 : Int) := of_decide_eq_true (by first | (with_reducible assumption) | assumption)
              have q209 : x8_1 < (l0.length : Int) := of_decide_eq_true (by first | (with_reducible assumption) | assumption)
              obtain ⟨ad209, e209, hx209_0, hx209_1, hx209_2, hx209_3⟩ := at_T56 HR0.out x8_1 p209 q209
              (try rw [← Nbq5.out] at hx209_2)
              cases e209
              replace hx209_0 := (HB.out.cell (World.block_lt_of_cell? w _ hx209_0)).trans hx209_0
              replace hx209_1 := (HB.out.cell (World.block_lt_of_cell? w _ hx209_1)).trans hx209_1
              replace hx209_2 := (HB.out.cell (World.block_lt_of_cell? w _ hx209_2)).trans hx209_2
              replace hx209_3 := (HB.out.cell (World.block_lt_of_cell? w _ hx209_3)).trans hx209_3
              replace p209 := eq_true p209
              replace q209 := eq_true q209
              go_wp2_with (first | ((with_reducible refine gate_dst (N := 5) rfl ?_); refine box_event ?hg (N := 5) ?hd (cs := #[.int .i64 0, .int .i64 0, .bool false, .int .i64 0]) (t := 56) ?hr ?_; (case hd => rfl); (case hg => rfl); (case hr => first | (go_simp; done) | (go_simp; rfl)); intro gb210 hg w7 hbox hb; have n0_ := Aside0.mk (below_step (by repeat (first | (with_reducible first | exact HB.out | apply below_alloc | apply pw_below_drewN | apply below_drew1) | exact HB.out)) hb); have n1_ := Aside0.mk (hbox); have n2_ := Aside0.mk ((by rw [hg]; exact (below_size (by repeat (first | (with_reducible first | exact HB.out | apply below_alloc | apply pw_below_drewN | apply below_drew1) | exact HB.out))) : w.heap.size ≤ gb210)); have n3_ := Aside0.mk ((by rw [hg]; exact (below_size (by repeat (first | (with_reducible first | exact HB.out | apply below_alloc | apply pw_below_drewN | apply below_drew1) | exact HB.out))) : w.heap.size ≤ gb210)); clear HB; have HB := n0_; have BK210 := n1_; have GW210 := n2_; have GE210 := n3_; clear n0_ n1_ n2_ n3_; clear hb hbox hg; have hcz8_0 : w7.cell? ⟨gb210, 0, none⟩ = some (.int .i64 0) := (blk_cell BK210.out 0).trans rfl; have hcz8_1 : w7.cell? ⟨gb210, 1, none⟩ = some (.int .i64 0) := (blk_cell BK210.out 1).trans rfl; have hcz8_2 : w7.cell? ⟨gb210, 2, none⟩ = some (.bool false) := (blk_cell BK210.out 2).trans rfl; have hcz8_3 : w7.cell? ⟨gb210, 3, none⟩ = some (.int .i64 0) := (blk_cell BK210.out 3).trans rfl; have hfz8_0 := blk_frozen BK210.out 0; have hfz8_1 := blk_frozen BK210.out 1; have hfz8_2 := blk_frozen BK210.out 2; have hfz8_3 := blk_frozen BK210.out 3))
              go_roundg k1
              case measure => have := HK1.out; omega
              case rel => exact ⟨(x3_1), (wrap64 (x8_1 + 1)), (by first | rfl | (simp; done) | (simp [*]; done)), (by first | rfl | (simp; done) | (simp [*]; done)), H', ⟨by have := HK1.out; omega⟩, ⟨by repeat (first | (with_reducible first | exact HB.out | apply below_alloc | apply pw_below_drewN | apply below_drew1 | refine below_set ?_ GE210.out) | exact HB.out)⟩⟩
            · replace c6 := Bool.eq_false_iff.mpr c6
              subst c6
              have H1 : (metrolablaw47_pins.l0 k1 (wrap64 (x3_1 + 1)) l0 (l0.length : Int) (wrap64 (x8_1 + 1))) = some r := by rw [if_neg (show ¬ (false = true) by decide)] at H; exact H
              clear H
              have H := H1
              clear H1
              have H' := Aside0.mk H
              clear H
              have p209 : 0 ≤ (x8_1 : Int) := of_decide_eq_true (by first | (with_reducible assumption) | assumption)
              have q209 : x8_1 < (l0.length : Int) := of_decide_eq_true (by first | (with_reducible assumption) | assumption)
              obtain ⟨ad209, e209, hx209_0, hx209_1, hx209_2, hx209_3⟩ := at_T56 HR0.out x8_1 p209 q209
              (try rw [← Nbq5.out] at hx209_2)
              cases e209
              replace hx209_0 := (HB.out.cell (World.block_lt_of_cell? w _ hx209_0)).trans hx209_0
              replace hx209_1 := (HB.out.cell (World.block_lt_of_cell? w _ hx209_1)).trans hx209_1
              replace hx209_2 := (HB.out.cell (World.block_lt_of_cell? w _ hx209_2)).trans hx209_2
              replace hx209_3 := (HB.out.cell (World.block_lt_of_cell? w _ hx209_3)).trans hx209_3
              replace p209 := eq_true p209
              replace q209 := eq_true q209
              go_wp2_with (first | ((with_reducible refine gate_dst (N := 5) rfl ?_); refine box_event ?hg (N := 5) ?hd (cs := #[.int .i64 0, .int .i64 0, .bool false, .int .i64 0]) (t := 56) ?hr ?_; (case hd => rfl); (case hg => rfl); (case hr => first | (go_simp; done) | (go_simp; rfl)); intro gb210 hg w9 hbox hb; have n0_ := Aside0.mk (below_step (by repeat (first | (with_reducible first | exact HB.out | apply below_alloc | apply pw_below_drewN | apply below_drew1) | exact HB.out)) hb); have n1_ := Aside0.mk (hbox); have n2_ := Aside0.mk ((by rw [hg]; exact (below_size (by repeat (first | (with_reducible first | exact HB.out | apply below_alloc | apply pw_below_drewN | apply below_drew1) | exact HB.out))) : w.heap.size ≤ gb210)); have n3_ := Aside0.mk ((by rw [hg]; exact (below_size (by repeat (first | (with_reducible first | exact HB.out | apply below_alloc | apply pw_below_drewN | apply below_drew1) | exact HB.out))) : w.heap.size ≤ gb210)); clear HB; have HB := n0_; have BK210 := n1_; have GW210 := n2_; have GE210 := n3_; clear n0_ n1_ n2_ n3_; clear hb hbox hg; have hcz10_0 : w9.cell? ⟨gb210, 0, none⟩ = some (.int .i64 0) := (blk_cell BK210.out 0).trans rfl; have hcz10_1 : w9.cell? ⟨gb210, 1, none⟩ = some (.int .i64 0) := (blk_cell BK210.out 1).trans rfl; have hcz10_2 : w9.cell? ⟨gb210, 2, none⟩ = some (.bool false) := (blk_cell BK210.out 2).trans rfl; have hcz10_3 : w9.cell? ⟨gb210, 3, none⟩ = some (.int .i64 0) := (blk_cell BK210.out 3).trans rfl; have hfz10_0 := blk_frozen BK210.out 0; have hfz10_1 := blk_frozen BK210.out 1; have hfz10_2 := blk_frozen BK210.out 2; have hfz10_3 := blk_frozen BK210.out 3))
              go_roundg k1
              case measure => have := HK1.out; omega
              case rel => exact ⟨(wrap64 (x3_1 + 1)), (wrap64 (x8_1 + 1)), (by first | rfl | (simp; done) | (simp [*]; done)), (by first | rfl | (simp; done) | (simp [*]; done)), H', ⟨by have := HK1.out; omega⟩, ⟨by repeat (first | (with_reducible first | exact HB.out | apply below_alloc | apply pw_below_drewN | apply below_drew1 | refine below_set ?_ GE210.out) | exact HB.out)⟩⟩
          · rw [if_neg c4] at H
            exact absurd H (by simp)
        · rw [if_neg c3] at H
          exact absurd H (by simp)
      · rw [if_neg c2] at H
        have c2b0 : decide (x8_1 < (l0.length : Int)) = false := decide_eq_false c2
        clear c2
        obtain rfl := Option.some.inj H
        go_wp2
        go_ret
        exact ⟨by first | rfl | (simp [errW_none, errW_some] <;> rfl) | (simp [*, errW_none, errW_some] <;> rfl), by repeat (first | (with_reducible first | exact HB.out | apply below_alloc | apply pw_below_drewN | apply below_drew1) | exact HB.out)⟩
end Go.Proofs.YtjemaonejkepcaaDoor.G
namespace Go.Proofs.YtjemaonejkepcaaDoor.G
open Go.Proofs.YtjemaonejkepcaaDoor.B
open Go.RowKit Go.Proofs.YtjemaonejkepcaaDoorW.PrintWords Go.Proofs.YtjemaonejkepcaaDoorW.PrintLast Go.Proofs.YtjemaonejkepcaaDoorW.PrintMore
attribute [local go_sem] max2_int min2_int max_two min_two max_three min_three max_four min_four   -- for this text's walks alone
set_option linter.unusedVariables false
set_option linter.unusedSimpArgs false
def metrolablaw47_GaugeLasts_1.f (a0_0 : Int) (a0_1 : Int) (a0_2 : Bool) (a0_3 : Int) : Option (Bool) := some (decide (a0_3 < 1))
set_option maxHeartbeats 8000000 in
set_option maxRecDepth 100000 in
theorem metrolablaw47_GaugeLasts_1.calls (a0_0 : Int) (a0_1 : Int) (a0_2 : Bool) (a0_3 : Int) (r : Bool) (w : World) (h : metrolablaw47_GaugeLasts_1.f a0_0 a0_1 a0_2 a0_3 = some r) :
    Calls Tryd.prog 38 #[.agg #[.int .i64 a0_0, .int .i64 a0_1, .bool a0_2, .int .i64 a0_3]] w fun e w' => e = .returned (.bool r) ∧ Below w.heap.size w w' := by
  have hu56 := Tryd.underlying56
  have HB := Aside0.mk (Below.refl w.heap.size w)
  have H : (some (decide (a0_3 < 1))) = some r := h
  clear h
  obtain rfl := Option.some.inj H
  go_enter Tryd.func38, Tryd.ntmps38
  go_wp2_with (first | ((with_reducible refine gate_dst (N := 1) rfl ?_); refine box_event ?hg (N := 1) ?hd (cs := #[.int .i64 a0_0, .int .i64 a0_1, .bool a0_2, .int .i64 a0_3]) (t := 56) ?hr ?_; (case hd => rfl); (case hg => rfl); (case hr => first | (go_simp; done) | (go_simp; rfl)); intro gb202 hg w2 hbox hb; have n0_ := Aside0.mk (below_step (by repeat (first | (with_reducible first | exact HB.out | apply below_alloc | apply pw_below_drewN | apply below_drew1) | exact HB.out)) hb); have n1_ := Aside0.mk (hbox); have n2_ := Aside0.mk ((by rw [hg]; exact (below_size (by repeat (first | (with_reducible first | exact HB.out | apply below_alloc | apply pw_below_drewN | apply below_drew1) | exact HB.out))) : w.heap.size ≤ gb202)); have n3_ := Aside0.mk ((by rw [hg]; exact (below_size (by repeat (first | (with_reducible first | exact HB.out | apply below_alloc | apply pw_below_drewN | apply below_drew1) | exact HB.out))) : w.heap.size ≤ gb202)); clear HB; have HB := n0_; have BK202 := n1_; have GW202 := n2_; have GE202 := n3_; clear n0_ n1_ n2_ n3_; clear hb hbox hg; have hcz3_0 : w2.cell? ⟨gb202, 0, none⟩ = some (.int .i64 a0_0) := (blk_cell BK202.out 0).trans rfl; have hcz3_1 : w2.cell? ⟨gb202, 1, none⟩ = some (.int .i64 a0_1) := (blk_cell BK202.out 1).trans rfl; have hcz3_2 : w2.cell? ⟨gb202, 2, none⟩ = some (.bool a0_2) := (blk_cell BK202.out 2).trans rfl; have hcz3_3 : w2.cell? ⟨gb202, 3, none⟩ = some (.int .i64 a0_3) := (blk_cell BK202.out 3).trans rfl; have hfz3_0 := blk_frozen BK202.out 0; have hfz3_1 := blk_frozen BK202.out 1; have hfz3_2 := blk_frozen BK202.out 2; have hfz3_3 := blk_frozen BK202.out 3))
  go_ret
  exact ⟨by first | rfl | (simp [errW_none, errW_some] <;> rfl) | (simp [*, errW_none, errW_some] <;> rfl), by repeat (first | (with_reducible first | exact HB.out | apply below_alloc | apply pw_below_drewN | apply below_drew1 | refine below_set ?_ GE202.out) | exact HB.out)⟩
end Go.Proofs.YtjemaonejkepcaaDoor.G
namespace Go.Proofs.YtjemaonejkepcaaDoor.G
open Go.Proofs.YtjemaonejkepcaaDoor.B
open Go.RowKit Go.Proofs.YtjemaonejkepcaaDoorW.PrintWords Go.Proofs.YtjemaonejkepcaaDoorW.PrintLast Go.Proofs.YtjemaonejkepcaaDoorW.PrintMore
attribute [local go_sem] max2_int min2_int max_two min_two max_three min_three max_four min_four   -- for this text's walks alone
set_option linter.unusedVariables false
set_option linter.unusedSimpArgs false
def gauge_Tool_91.l0 : Nat → List (S56) → Int → Int → Option (Int)
  | 0, _, _, _ => none
  | k + 1, x0, x7, x8 => if x8 < x7 then (if 0 ≤ x8 then (if x8 < (x0.length : Int) then ((metrolablaw47_GaugeLasts_1.f ((rd_T56 x0 x8).f0.f0) ((rd_T56 x0 x8).f0.f1) ((rd_T56 x0 x8).f1) ((rd_T56 x0 x8).f2)).bind fun t204 => (if t204 = true then (some x8) else (gauge_Tool_91.l0 k x0 x7 (wrap64 (x8 + 1))))) else (none)) else (none)) else (some (-1))
def gauge_Tool_91.f (k : Nat) (l0 : List (S56)) : Option (Int) := gauge_Tool_91.l0 k l0 (l0.length : Int) 0
theorem gauge_Tool_91.mono_l : ∀ k, (∀ y0 y1 y2, LeO (gauge_Tool_91.l0 k y0 y1 y2) (gauge_Tool_91.l0 (k + 1) y0 y1 y2))
  | 0 => fun _ _ _ r h => by simp [gauge_Tool_91.l0] at h
  | k + 1 => by
    have ih0 := gauge_Tool_91.mono_l k
    · intro y0 y1 y2
      unfold gauge_Tool_91.l0
      repeat' first
      | (with_reducible exact ih0 _ _ _)
      | (with_reducible exact LeO.refl _)
      | (with_reducible exact LeO.none _)
      | (with_reducible refine LeO.ite ?_ ?_)
      | (with_reducible refine LeO.bind ?_ (fun _ => ?_))
      | exact ih0 _ _ _
      | exact LeO.none _
      | refine LeO.ite ?_ ?_
      | refine LeO.bind ?_ (fun _ => ?_)
theorem gauge_Tool_91.mono : ∀ a0 k, LeO (gauge_Tool_91.f k a0) (gauge_Tool_91.f (k + 1) a0) := by
  intro a0 k
  have ih0 := gauge_Tool_91.mono_l k
  unfold gauge_Tool_91.f
  repeat' first
      | (with_reducible exact ih0 _ _ _)
      | (with_reducible exact LeO.refl _)
      | (with_reducible exact LeO.none _)
      | (with_reducible refine LeO.ite ?_ ?_)
      | (with_reducible refine LeO.bind ?_ (fun _ => ?_))
      | exact ih0 _ _ _
      | exact LeO.none _
      | refine LeO.ite ?_ ?_
      | refine LeO.bind ?_ (fun _ => ?_)
set_option maxHeartbeats 8000000 in
set_option maxRecDepth 100000 in
theorem gauge_Tool_91.calls (k : Nat) (A0 : Option Addr) (c0 : Nat) (l0 : List (S56)) (r : Int) (w : World) (hr0 : Kd.C k56 w A0 l0.length l0) (hc0 : l0.length ≤ c0) (h : gauge_Tool_91.f k l0 = some r) :
    Calls Tryd.prog 91 #[.slice A0 l0.length c0, .func (.func 38) #[] #[]] w fun e w' => e = .returned (.int .i64 r) ∧ Below w.heap.size w w' := by
  have hu56 := Tryd.underlying56
  have HR0 := Aside0.mk hr0
  have HC0 := Aside0.mk hc0
  clear hr0 hc0
  have HB := Aside0.mk (Below.refl w.heap.size w)
  have H : (gauge_Tool_91.l0 k l0 (l0.length : Int) 0) = some r := h
  clear h
  have H' := Aside0.mk H
  clear H
  go_enter Tryd.func91, Tryd.ntmps91
  go_wp2
  go_loopg [8] k (fun kq v8 w' => ∃ (x8_1 : Int), v8 = .int .i64 x8_1 ∧ Aside0 (gauge_Tool_91.l0 kq l0 (l0.length : Int) x8_1 = some r) ∧ Aside0 (kq ≤ k) ∧ Aside0 (Below w.heap.size w w'))
  case atStart => exact ⟨(0), (by first | rfl | (simp; done) | (simp [*]; done)), H', ⟨Nat.le_refl _⟩, ⟨by repeat (first | (with_reducible first | exact HB.out | apply below_alloc | apply pw_below_drewN | apply below_drew1) | exact HB.out)⟩⟩
  case round =>
    clear H'
    obtain ⟨x8_1, rfl, HA, HK1, HB⟩ := hrel
    cases gk with
    | zero => exact absurd HA.out (by simp [gauge_Tool_91.l0])
    | succ k1 =>
      have H := HA.out
      clear HA
      simp only [gauge_Tool_91.l0] at H
      by_cases c2 : x8_1 < (l0.length : Int)
      · rw [if_pos c2] at H
        have c2b0 : decide (x8_1 < (l0.length : Int)) = true := decide_eq_true c2
        clear c2
        by_cases c3 : 0 ≤ x8_1
        · rw [if_pos c3] at H
          have c3b0 : decide (0 ≤ x8_1) = true := decide_eq_true c3
          clear c3
          by_cases c4 : x8_1 < (l0.length : Int)
          · rw [if_pos c4] at H
            have c4b0 : decide (x8_1 < (l0.length : Int)) = true := decide_eq_true c4
            clear c4
            replace H := Option.bind_eq_some_iff.mp H
            obtain ⟨t204, A50, H⟩ := H
            replace H : (if t204 = true then (some x8_1) else (gauge_Tool_91.l0 k1 l0 (l0.length : Int) (wrap64 (x8_1 + 1)))) = some r := H
            have A5 := Aside0.mk A50
            clear A50
            by_cases c6 : t204 = true
            · subst c6
              have H1 : (some x8_1) = some r := by rw [if_pos rfl] at H; exact H
              clear H
              have H := H1
              clear H1
              obtain rfl := Option.some.inj H
              have p203 : 0 ≤ (x8_1 : Int) := of_decide_eq_true (by first | (with_reducible assumption) | assumption)
              have q203 : x8_1 < (l0.length : Int) := of_decide_eq_true (by first | (with_reducible assumption) | assumption)
              obtain ⟨ad203, e203, hx203_0, hx203_1, hx203_2, hx203_3⟩ := at_T56 HR0.out x8_1 p203 q203
              cases e203
              replace hx203_0 := (HB.out.cell (World.block_lt_of_cell? w _ hx203_0)).trans hx203_0
              replace hx203_1 := (HB.out.cell (World.block_lt_of_cell? w _ hx203_1)).trans hx203_1
              replace hx203_2 := (HB.out.cell (World.block_lt_of_cell? w _ hx203_2)).trans hx203_2
              replace hx203_3 := (HB.out.cell (World.block_lt_of_cell? w _ hx203_3)).trans hx203_3
              replace p203 := eq_true p203
              replace q203 := eq_true q203
              go_wp2_with (first | (go_at_call 38; (with_reducible refine (metrolablaw47_GaugeLasts_1.calls ((rd_T56 l0 x8_1).f0.f0) ((rd_T56 l0 x8_1).f0.f1) ((rd_T56 l0 x8_1).f1) ((rd_T56 l0 x8_1).f2) true _ A5.out).mono ?_); rintro e w7 ⟨rfl, hb⟩; skip; have n0_ := Aside0.mk (below_step (by repeat (first | (with_reducible first | exact HB.out | apply below_alloc | apply pw_below_drewN | apply below_drew1) | exact HB.out)) hb); clear HB; have HB := n0_; clear n0_; (try clear hb); (try clear hb2); (try clear hk); (try clear hi)))
              go_ret
              exact ⟨by first | rfl | (simp [errW_none, errW_some] <;> rfl) | (simp [*, errW_none, errW_some] <;> rfl), by repeat (first | (with_reducible first | exact HB.out | apply below_alloc | apply pw_below_drewN | apply below_drew1) | exact HB.out)⟩
            · replace c6 := Bool.eq_false_iff.mpr c6
              subst c6
              have H1 : (gauge_Tool_91.l0 k1 l0 (l0.length : Int) (wrap64 (x8_1 + 1))) = some r := by rw [if_neg (show ¬ (false = true) by decide)] at H; exact H
              clear H
              have H := H1
              clear H1
              have H' := Aside0.mk H
              clear H
              have p203 : 0 ≤ (x8_1 : Int) := of_decide_eq_true (by first | (with_reducible assumption) | assumption)
              have q203 : x8_1 < (l0.length : Int) := of_decide_eq_true (by first | (with_reducible assumption) | assumption)
              obtain ⟨ad203, e203, hx203_0, hx203_1, hx203_2, hx203_3⟩ := at_T56 HR0.out x8_1 p203 q203
              cases e203
              replace hx203_0 := (HB.out.cell (World.block_lt_of_cell? w _ hx203_0)).trans hx203_0
              replace hx203_1 := (HB.out.cell (World.block_lt_of_cell? w _ hx203_1)).trans hx203_1
              replace hx203_2 := (HB.out.cell (World.block_lt_of_cell? w _ hx203_2)).trans hx203_2
              replace hx203_3 := (HB.out.cell (World.block_lt_of_cell? w _ hx203_3)).trans hx203_3
              replace p203 := eq_true p203
              replace q203 := eq_true q203
              go_wp2_with (first | (go_at_call 38; (with_reducible refine (metrolablaw47_GaugeLasts_1.calls ((rd_T56 l0 x8_1).f0.f0) ((rd_T56 l0 x8_1).f0.f1) ((rd_T56 l0 x8_1).f1) ((rd_T56 l0 x8_1).f2) false _ A5.out).mono ?_); rintro e w8 ⟨rfl, hb⟩; skip; have n0_ := Aside0.mk (below_step (by repeat (first | (with_reducible first | exact HB.out | apply below_alloc | apply pw_below_drewN | apply below_drew1) | exact HB.out)) hb); clear HB; have HB := n0_; clear n0_; (try clear hb); (try clear hb2); (try clear hk); (try clear hi)))
              go_roundg k1
              case measure => have := HK1.out; omega
              case rel => exact ⟨(wrap64 (x8_1 + 1)), (by first | rfl | (simp; done) | (simp [*]; done)), H', ⟨by have := HK1.out; omega⟩, ⟨by repeat (first | (with_reducible first | exact HB.out | apply below_alloc | apply pw_below_drewN | apply below_drew1) | exact HB.out)⟩⟩
          · rw [if_neg c4] at H
            exact absurd H (by simp)
        · rw [if_neg c3] at H
          exact absurd H (by simp)
      · rw [if_neg c2] at H
        have c2b0 : decide (x8_1 < (l0.length : Int)) = false := decide_eq_false c2
        clear c2
        obtain rfl := Option.some.inj H
        go_wp2
        go_ret
        exact ⟨by first | rfl | (simp [errW_none, errW_some] <;> rfl) | (simp [*, errW_none, errW_some] <;> rfl), by repeat (first | (with_reducible first | exact HB.out | apply below_alloc | apply pw_below_drewN | apply below_drew1) | exact HB.out)⟩
end Go.Proofs.YtjemaonejkepcaaDoor.G
namespace Go.Proofs.YtjemaonejkepcaaDoor.G
open Go.Proofs.YtjemaonejkepcaaDoor.B
open Go.RowKit Go.Proofs.YtjemaonejkepcaaDoorW.PrintWords Go.Proofs.YtjemaonejkepcaaDoorW.PrintLast Go.Proofs.YtjemaonejkepcaaDoorW.PrintMore
attribute [local go_sem] max2_int min2_int max_two min_two max_three min_three max_four min_four   -- for this text's walks alone
set_option linter.unusedVariables false
set_option linter.unusedSimpArgs false
def gauge_Tool_37.f (k : Nat) (l0 : List (S56)) : Option (Bool) := (gauge_Tool_91.f k l0).bind fun t205 => (some (decide (t205 ≥ 0)))
theorem gauge_Tool_37.mono : ∀ a0 k, LeO (gauge_Tool_37.f k a0) (gauge_Tool_37.f (k + 1) a0) := by
  intro a0 k
  unfold gauge_Tool_37.f
  repeat' first
      | (with_reducible exact gauge_Tool_91.mono _ _)
      | (with_reducible exact LeO.refl _)
      | (with_reducible exact LeO.none _)
      | (with_reducible refine LeO.ite ?_ ?_)
      | (with_reducible refine LeO.bind ?_ (fun _ => ?_))
      | exact gauge_Tool_91.mono _ _
      | exact LeO.none _
      | refine LeO.ite ?_ ?_
      | refine LeO.bind ?_ (fun _ => ?_)
set_option maxHeartbeats 8000000 in
set_option maxRecDepth 100000 in
theorem gauge_Tool_37.calls (k : Nat) (A0 : Option Addr) (c0 : Nat) (l0 : List (S56)) (r : Bool) (w : World) (hr0 : Kd.C k56 w A0 l0.length l0) (hc0 : l0.length ≤ c0) (h : gauge_Tool_37.f k l0 = some r) :
    Calls Tryd.prog 37 #[.slice A0 l0.length c0, .func (.func 38) #[] #[]] w fun e w' => e = .returned (.bool r) ∧ Below w.heap.size w w' := by
  have HR0 := Aside0.mk hr0
  have HC0 := Aside0.mk hc0
  clear hr0 hc0
  have HB := Aside0.mk (Below.refl w.heap.size w)
  have H : ((gauge_Tool_91.f k l0).bind fun t205 => (some (decide (t205 ≥ 0)))) = some r := h
  clear h
  replace H := Option.bind_eq_some_iff.mp H
  obtain ⟨t205, A20, H⟩ := H
  replace H : (some (decide (t205 ≥ 0))) = some r := H
  have A2 := Aside0.mk A20
  clear A20
  obtain rfl := Option.some.inj H
  go_enter Tryd.func37, Tryd.ntmps37
  go_wp2_with (first | (go_at_call 91; (with_reducible refine (gauge_Tool_91.calls k _ _ l0 t205 _ ?side1 ?side2 A2.out).mono ?_); (case side1 => repeat (first | exact HR0.out | (with_reducible refine Kd.C_alloc ?_ _) | (with_reducible refine Kd.C_drewN ?_ _) | (with_reducible refine Kd.C_drew ?_))); (case side2 => exact HC0.out); rintro e w3 ⟨rfl, hb⟩; skip; have n0_ := Aside0.mk (below_step (by repeat (first | (with_reducible first | exact HB.out | apply below_alloc | apply pw_below_drewN | apply below_drew1) | exact HB.out)) hb); clear HB; have HB := n0_; clear n0_; (try clear hb); (try clear hb2); (try clear hk); (try clear hi)))
  go_ret
  exact ⟨by first | rfl | (simp [errW_none, errW_some] <;> rfl) | (simp [*, errW_none, errW_some] <;> rfl), by repeat (first | (with_reducible first | exact HB.out | apply below_alloc | apply pw_below_drewN | apply below_drew1) | exact HB.out)⟩
end Go.Proofs.YtjemaonejkepcaaDoor.G
namespace Go.Proofs.YtjemaonejkepcaaDoor.G
open Go.Proofs.YtjemaonejkepcaaDoor.B
open Go.RowKit Go.Proofs.YtjemaonejkepcaaDoorW.PrintWords Go.Proofs.YtjemaonejkepcaaDoorW.PrintLast Go.Proofs.YtjemaonejkepcaaDoorW.PrintMore
attribute [local go_sem] max2_int min2_int max_two min_two max_three min_three max_four min_four   -- for this text's walks alone
set_option linter.unusedVariables false
set_option linter.unusedSimpArgs false
/-- What the last closure of GaugeLasts knows: the tools; and where it captured them. -/
class Dat40 where
  made : List S56
class Adr40 where
  gm : Nat
  A : Option Addr
  c : Nat
def CapAt40 [q : Dat40] [a : Adr40] (w : World) : Prop := w.heap[a.gm]? = some (.cells #[.slice a.A q.made.length a.c] 52 (0, 0)) ∧ Kd.C k56 w a.A q.made.length q.made
theorem cap40_below [Dat40] [Adr40] {w w' : World} (h : CapAt40 w) (hb : Below w.heap.size w w') : CapAt40 w' := ⟨(hb.block _ (blk_lt h.1)).trans h.1, Kd.C_below h.2 hb⟩
def metrolablaw47_GaugeLasts_2.f [q : Dat40] (a0 : Int) : Option Bool := if 0 ≤ a0 then if a0 < (q.made.length : Int) then some ((rd_T56 q.made a0).f1) else none else none
set_option maxHeartbeats 4000000 in
set_option maxRecDepth 100000 in
theorem metrolablaw47_GaugeLasts_2.calls [q : Dat40] [a : Adr40] (a0 : Int) (r : Bool) (w : World) (h : metrolablaw47_GaugeLasts_2.f a0 = some r) (hS : CapAt40 w) :
    Calls Tryd.prog 40 #[.int .i64 a0, .pointer (some ⟨a.gm, 0, none⟩)] w fun e w' => e = .returned (.bool r) ∧ Below w.heap.size w w' := by
  have hu56 := Tryd.underlying56
  unfold metrolablaw47_GaugeLasts_2.f at h
  by_cases h0 : 0 ≤ a0
  · rw [if_pos h0] at h
    by_cases h1 : a0 < (q.made.length : Int)
    · rw [if_pos h1] at h
      obtain rfl := Option.some.inj h
      obtain ⟨ad, e, l0, l1, l2, l3⟩ := at_T56 hS.2 a0 h0 h1
      have g1 : w.cell? ⟨a.gm, 0, none⟩ = some (.slice (some ad) q.made.length a.c) := by rw [← e]; exact (blk_cell hS.1 0).trans rfl
      clear hS e l0 l1 l3 h
      generalize (rd_T56 q.made a0).f1 = P at *
      generalize q.made.length = nl at *
      go_enter Tryd.func40, Tryd.ntmps40
      go_wp2
      go_ret
      exact ⟨rfl, by repeat (first | exact Below.refl _ _ | apply below_alloc | apply pw_below_drewN | apply below_drew1)⟩
    · rw [if_neg h1] at h; cases h
  · rw [if_neg h0] at h; cases h
end Go.Proofs.YtjemaonejkepcaaDoor.G
namespace Go.Proofs.YtjemaonejkepcaaDoor.G
open Go.Proofs.YtjemaonejkepcaaDoor.B
open Go.RowKit Go.Proofs.YtjemaonejkepcaaDoorW.PrintWords Go.Proofs.YtjemaonejkepcaaDoorW.PrintLast Go.Proofs.YtjemaonejkepcaaDoorW.PrintMore
attribute [local go_sem] max2_int min2_int max_two min_two max_three min_three max_four min_four   -- for this text's walks alone
set_option linter.unusedVariables false
set_option linter.unusedSimpArgs false
section
variable [q40 : Dat40]
def slices_IndexFunc_int_int.l0 : Nat → List Int → Int → Int → Option (Int)
  | 0, _, _, _ => none
  | k + 1, x0, x7, x8 => if x8 < x7 then (if 0 ≤ x8 then (if x8 < (x0.length : Int) then ((metrolablaw47_GaugeLasts_2.f (rd x0 x8)).bind fun t207 => (if t207 = true then (some x8) else (slices_IndexFunc_int_int.l0 k x0 x7 (wrap64 (x8 + 1))))) else (none)) else (none)) else (some (-1))
def slices_IndexFunc_int_int.f (k : Nat) (l0 : List Int) : Option (Int) := slices_IndexFunc_int_int.l0 k l0 (l0.length : Int) 0
theorem slices_IndexFunc_int_int.mono_l : ∀ k, (∀ y0 y1 y2, LeO (slices_IndexFunc_int_int.l0 k y0 y1 y2) (slices_IndexFunc_int_int.l0 (k + 1) y0 y1 y2))
  | 0 => fun _ _ _ r h => by simp [slices_IndexFunc_int_int.l0] at h
  | k + 1 => by
    have ih0 := slices_IndexFunc_int_int.mono_l k
    · intro y0 y1 y2
      unfold slices_IndexFunc_int_int.l0
      repeat' first
      | (with_reducible exact ih0 _ _ _)
      | (with_reducible exact LeO.refl _)
      | (with_reducible exact LeO.none _)
      | (with_reducible refine LeO.ite ?_ ?_)
      | (with_reducible refine LeO.bind ?_ (fun _ => ?_))
      | exact ih0 _ _ _
      | exact LeO.none _
      | refine LeO.ite ?_ ?_
      | refine LeO.bind ?_ (fun _ => ?_)
theorem slices_IndexFunc_int_int.mono : ∀ a0 k, LeO (slices_IndexFunc_int_int.f k a0) (slices_IndexFunc_int_int.f (k + 1) a0) := by
  intro a0 k
  have ih0 := slices_IndexFunc_int_int.mono_l k
  unfold slices_IndexFunc_int_int.f
  repeat' first
      | (with_reducible exact ih0 _ _ _)
      | (with_reducible exact LeO.refl _)
      | (with_reducible exact LeO.none _)
      | (with_reducible refine LeO.ite ?_ ?_)
      | (with_reducible refine LeO.bind ?_ (fun _ => ?_))
      | exact ih0 _ _ _
      | exact LeO.none _
      | refine LeO.ite ?_ ?_
      | refine LeO.bind ?_ (fun _ => ?_)
set_option maxHeartbeats 8000000 in
set_option maxRecDepth 100000 in
theorem slices_IndexFunc_int_int.calls [Adr40] (k : Nat) (A0 : Option Addr) (c0 : Nat) (l0 : List Int) (r : Int) (w : World) (hr0 : Kd.C (Kd.int .i64) w A0 l0.length l0) (hc0 : l0.length ≤ c0) (h : slices_IndexFunc_int_int.f k l0 = some r) (hS : CapAt40 w) :
    Calls Tryd.prog 92 #[.slice A0 l0.length c0, .func (.func 40) #[] #[.pointer (some ⟨Adr40.gm, 0, none⟩)]] w fun e w' => e = .returned (.int .i64 r) ∧ Below w.heap.size w w' := by
  have HS := Aside0.mk hS
  clear hS
  have HR0 := Aside0.mk hr0
  have HC0 := Aside0.mk hc0
  clear hr0 hc0
  have HB := Aside0.mk (Below.refl w.heap.size w)
  have H : (slices_IndexFunc_int_int.l0 k l0 (l0.length : Int) 0) = some r := h
  clear h
  have H' := Aside0.mk H
  clear H
  go_enter Tryd.func92, Tryd.ntmps92
  go_wp2
  go_loopg [8] k (fun kq v8 w' => ∃ (x8_1 : Int), v8 = .int .i64 x8_1 ∧ Aside0 (slices_IndexFunc_int_int.l0 kq l0 (l0.length : Int) x8_1 = some r) ∧ Aside0 (kq ≤ k) ∧ Aside0 (Below w.heap.size w w'))
  case atStart => exact ⟨(0), (by first | rfl | (simp; done) | (simp [*]; done)), H', ⟨Nat.le_refl _⟩, ⟨by repeat (first | (with_reducible first | exact HB.out | apply below_alloc | apply pw_below_drewN | apply below_drew1) | exact HB.out)⟩⟩
  case round =>
    clear H'
    obtain ⟨x8_1, rfl, HA, HK1, HB⟩ := hrel
    cases gk with
    | zero => exact absurd HA.out (by simp [slices_IndexFunc_int_int.l0])
    | succ k1 =>
      have H := HA.out
      clear HA
      simp only [slices_IndexFunc_int_int.l0] at H
      by_cases c2 : x8_1 < (l0.length : Int)
      · rw [if_pos c2] at H
        have c2b0 : decide (x8_1 < (l0.length : Int)) = true := decide_eq_true c2
        clear c2
        by_cases c3 : 0 ≤ x8_1
        · rw [if_pos c3] at H
          have c3b0 : decide (0 ≤ x8_1) = true := decide_eq_true c3
          clear c3
          by_cases c4 : x8_1 < (l0.length : Int)
          · rw [if_pos c4] at H
            have c4b0 : decide (x8_1 < (l0.length : Int)) = true := decide_eq_true c4
            clear c4
            replace H := Option.bind_eq_some_iff.mp H
            obtain ⟨t207, A50, H⟩ := H
            replace H : (if t207 = true then (some x8_1) else (slices_IndexFunc_int_int.l0 k1 l0 (l0.length : Int) (wrap64 (x8_1 + 1)))) = some r := H
            have A5 := Aside0.mk A50
            clear A50
            by_cases c6 : t207 = true
            · subst c6
              have H1 : (some x8_1) = some r := by rw [if_pos rfl] at H; exact H
              clear H
              have H := H1
              clear H1
              obtain rfl := Option.some.inj H
              have p206 : 0 ≤ (x8_1 : Int) := of_decide_eq_true (by first | (with_reducible assumption) | assumption)
              have q206 : x8_1 < (l0.length : Int) := of_decide_eq_true (by first | (with_reducible assumption) | assumption)
              obtain ⟨ad206, e206, hx206_0⟩ := Kd.at_int HR0.out x8_1 p206 q206
              cases e206
              replace hx206_0 := (HB.out.cell (World.block_lt_of_cell? w _ hx206_0)).trans hx206_0
              replace p206 := eq_true p206
              replace q206 := eq_true q206
              go_wp2_with (first | (go_at_call 40; (with_reducible refine (metrolablaw47_GaugeLasts_2.calls (rd l0 x8_1) true _ A5.out (by exact cap40_below HS.out (by repeat (first | (with_reducible first | exact HB.out | apply below_alloc | apply pw_below_drewN | apply below_drew1 | fail) | exact HB.out)))).mono ?_); rintro e w7 ⟨rfl, hb⟩; skip; have n0_ := Aside0.mk (below_step (by repeat (first | (with_reducible first | exact HB.out | apply below_alloc | apply pw_below_drewN | apply below_drew1) | exact HB.out)) hb); clear HB; have HB := n0_; clear n0_; (try clear hb); (try clear hb2); (try clear hk); (try clear hi)))
              go_ret
              exact ⟨by first | rfl | (simp [errW_none, errW_some] <;> rfl) | (simp [*, errW_none, errW_some] <;> rfl), by repeat (first | (with_reducible first | exact HB.out | apply below_alloc | apply pw_below_drewN | apply below_drew1) | exact HB.out)⟩
            · replace c6 := Bool.eq_false_iff.mpr c6
              subst c6
              have H1 : (slices_IndexFunc_int_int.l0 k1 l0 (l0.length : Int) (wrap64 (x8_1 + 1))) = some r := by rw [if_neg (show ¬ (false = true) by decide)] at H; exact H
              clear H
              have H := H1
              clear H1
              have H' := Aside0.mk H
              clear H
              have p206 : 0 ≤ (x8_1 : Int) := of_decide_eq_true (by first | (with_reducible assumption) | assumption)
              have q206 : x8_1 < (l0.length : Int) := of_decide_eq_true (by first | (with_reducible assumption) | assumption)
              obtain ⟨ad206, e206, hx206_0⟩ := Kd.at_int HR0.out x8_1 p206 q206
              cases e206
              replace hx206_0 := (HB.out.cell (World.block_lt_of_cell? w _ hx206_0)).trans hx206_0
              replace p206 := eq_true p206
              replace q206 := eq_true q206
              go_wp2_with (first | (go_at_call 40; (with_reducible refine (metrolablaw47_GaugeLasts_2.calls (rd l0 x8_1) false _ A5.out (by exact cap40_below HS.out (by repeat (first | (with_reducible first | exact HB.out | apply below_alloc | apply pw_below_drewN | apply below_drew1 | fail) | exact HB.out)))).mono ?_); rintro e w8 ⟨rfl, hb⟩; skip; have n0_ := Aside0.mk (below_step (by repeat (first | (with_reducible first | exact HB.out | apply below_alloc | apply pw_below_drewN | apply below_drew1) | exact HB.out)) hb); clear HB; have HB := n0_; clear n0_; (try clear hb); (try clear hb2); (try clear hk); (try clear hi)))
              go_roundg k1
              case measure => have := HK1.out; omega
              case rel => exact ⟨(wrap64 (x8_1 + 1)), (by first | rfl | (simp; done) | (simp [*]; done)), H', ⟨by have := HK1.out; omega⟩, ⟨by repeat (first | (with_reducible first | exact HB.out | apply below_alloc | apply pw_below_drewN | apply below_drew1) | exact HB.out)⟩⟩
          · rw [if_neg c4] at H
            exact absurd H (by simp)
        · rw [if_neg c3] at H
          exact absurd H (by simp)
      · rw [if_neg c2] at H
        have c2b0 : decide (x8_1 < (l0.length : Int)) = false := decide_eq_false c2
        clear c2
        obtain rfl := Option.some.inj H
        go_wp2
        go_ret
        exact ⟨by first | rfl | (simp [errW_none, errW_some] <;> rfl) | (simp [*, errW_none, errW_some] <;> rfl), by repeat (first | (with_reducible first | exact HB.out | apply below_alloc | apply pw_below_drewN | apply below_drew1) | exact HB.out)⟩
end
end Go.Proofs.YtjemaonejkepcaaDoor.G
namespace Go.Proofs.YtjemaonejkepcaaDoor.G
open Go.Proofs.YtjemaonejkepcaaDoor.B
open Go.RowKit Go.Proofs.YtjemaonejkepcaaDoorW.PrintWords Go.Proofs.YtjemaonejkepcaaDoorW.PrintLast Go.Proofs.YtjemaonejkepcaaDoorW.PrintMore
attribute [local go_sem] max2_int min2_int max_two min_two max_three min_three max_four min_four   -- for this text's walks alone
set_option linter.unusedVariables false
set_option linter.unusedSimpArgs false
section
variable [q40 : Dat40]
def slices_ContainsFunc_int_int.f (k : Nat) (l0 : List Int) : Option (Bool) := (slices_IndexFunc_int_int.f k l0).bind fun t208 => (some (decide (t208 ≥ 0)))
theorem slices_ContainsFunc_int_int.mono : ∀ a0 k, LeO (slices_ContainsFunc_int_int.f k a0) (slices_ContainsFunc_int_int.f (k + 1) a0) := by
  intro a0 k
  unfold slices_ContainsFunc_int_int.f
  repeat' first
      | (with_reducible exact slices_IndexFunc_int_int.mono _ _)
      | (with_reducible exact LeO.refl _)
      | (with_reducible exact LeO.none _)
      | (with_reducible refine LeO.ite ?_ ?_)
      | (with_reducible refine LeO.bind ?_ (fun _ => ?_))
      | exact slices_IndexFunc_int_int.mono _ _
      | exact LeO.none _
      | refine LeO.ite ?_ ?_
      | refine LeO.bind ?_ (fun _ => ?_)
set_option maxHeartbeats 8000000 in
set_option maxRecDepth 100000 in
theorem slices_ContainsFunc_int_int.calls [Adr40] (k : Nat) (A0 : Option Addr) (c0 : Nat) (l0 : List Int) (r : Bool) (w : World) (hr0 : Kd.C (Kd.int .i64) w A0 l0.length l0) (hc0 : l0.length ≤ c0) (h : slices_ContainsFunc_int_int.f k l0 = some r) (hS : CapAt40 w) :
    Calls Tryd.prog 39 #[.slice A0 l0.length c0, .func (.func 40) #[] #[.pointer (some ⟨Adr40.gm, 0, none⟩)]] w fun e w' => e = .returned (.bool r) ∧ Below w.heap.size w w' := by
  have HS := Aside0.mk hS
  clear hS
  have HR0 := Aside0.mk hr0
  have HC0 := Aside0.mk hc0
  clear hr0 hc0
  have HB := Aside0.mk (Below.refl w.heap.size w)
  have H : ((slices_IndexFunc_int_int.f k l0).bind fun t208 => (some (decide (t208 ≥ 0)))) = some r := h
  clear h
  replace H := Option.bind_eq_some_iff.mp H
  obtain ⟨t208, A20, H⟩ := H
  replace H : (some (decide (t208 ≥ 0))) = some r := H
  have A2 := Aside0.mk A20
  clear A20
  obtain rfl := Option.some.inj H
  go_enter Tryd.func39, Tryd.ntmps39
  go_wp2_with (first | (go_at_call 92; (with_reducible refine (slices_IndexFunc_int_int.calls k _ _ l0 t208 _ ?side1 ?side2 A2.out (by exact cap40_below HS.out (by repeat (first | (with_reducible first | exact HB.out | apply below_alloc | apply pw_below_drewN | apply below_drew1 | fail) | exact HB.out)))).mono ?_); (case side1 => repeat (first | exact HR0.out | (with_reducible refine Kd.C_alloc ?_ _) | (with_reducible refine Kd.C_drewN ?_ _) | (with_reducible refine Kd.C_drew ?_))); (case side2 => exact HC0.out); rintro e w3 ⟨rfl, hb⟩; skip; have n0_ := Aside0.mk (below_step (by repeat (first | (with_reducible first | exact HB.out | apply below_alloc | apply pw_below_drewN | apply below_drew1) | exact HB.out)) hb); clear HB; have HB := n0_; clear n0_; (try clear hb); (try clear hb2); (try clear hk); (try clear hi)))
  go_ret
  exact ⟨by first | rfl | (simp [errW_none, errW_some] <;> rfl) | (simp [*, errW_none, errW_some] <;> rfl), by repeat (first | (with_reducible first | exact HB.out | apply below_alloc | apply pw_below_drewN | apply below_drew1) | exact HB.out)⟩
end
end Go.Proofs.YtjemaonejkepcaaDoor.G
namespace Go.Proofs.YtjemaonejkepcaaDoor.G
set_option linter.unusedVariables false
set_option linter.unusedSimpArgs false
open Go.Proofs.YtjemaonejkepcaaDoor.B
open Go.RowKit Go.Proofs.YtjemaonejkepcaaDoorW.PrintWords Go.Proofs.YtjemaonejkepcaaDoorW.PrintMore
/-- The last tools. -/
def E (W M : Int) (l : List S27) : List S56 := (D false W M l).map (V W)
theorem V_f1 (W : Int) (x : S56) : (V W x).f1 = x.f1 := by unfold V; split <;> rfl
theorem V_ok {W M : Int} (hW : 0 ≤ W ∧ W ≤ 100000) (hM : 0 ≤ M ∧ M ≤ 100000) {t : S27} (h : te t = 0) (hL : 1 ≤ (de W M t).f2.f0) (hs : 1 ≤ (V W (dt false W M t)).f2) :
    we t (V W (dt false W M t)) = 0 ∧ wb t (V W (dt false W M t)) = !t.f4 := by
  cases hp : t.f4 with
  | true =>
    have hv := tv_pin h hp
    have e : dt false W M t = ⟨⟨t.f0.f0, t.f0.f1⟩, true, tv t - W - M⟩ := by unfold dt mkt de; rw [if_pos hp]; rfl
    rw [e] at hs ⊢
    have e2 : V W (⟨⟨t.f0.f0, t.f0.f1⟩, true, tv t - W - M⟩ : S56) = ⟨⟨t.f0.f0, t.f0.f1⟩, true, tv t - W - M⟩ := rfl
    rw [e2] at hs ⊢
    simp only at hs
    unfold we wb
    simp only
    rw [if_pos (by omega), if_pos ⟨trivial, trivial, hp.symm⟩, if_pos trivial]
    exact ⟨rfl, decide_eq_false (by omega)⟩
  | false =>
    have hv := tv_hole h hp
    have e : dt false W M t = ⟨⟨t.f0.f0, t.f0.f1⟩, false, tv t + W⟩ := by unfold dt mkt de; rw [hp, if_neg Bool.false_ne_true]; rfl
    rw [e] at hs ⊢
    have e2 : V W (⟨⟨t.f0.f0, t.f0.f1⟩, false, tv t + W⟩ : S56) = ⟨⟨t.f0.f0, t.f0.f1⟩, false, tv t + W - (W + 1)⟩ := rfl
    rw [e2] at hs ⊢
    simp only at hs
    unfold we wb
    simp only
    rw [if_pos (by omega), if_pos ⟨trivial, trivial, hp.symm⟩, if_neg (by decide)]
    exact ⟨rfl, decide_eq_true (by omega)⟩
theorem fw_V {W M : Int} (hW : 0 ≤ W ∧ W ≤ 100000) (hM : 0 ≤ M ∧ M ≤ 100000) : ∀ (l : List S27), (∀ t ∈ l, te t = 0) → (∀ t ∈ l, 1 ≤ (de W M t).f2.f0) → (∀ x ∈ E W M l, 1 ≤ x.f2) → fw l (E W M l) = 0 ∧ List.zipWith wb l (E W M l) = l.map (fun t => !t.f4)
  | [], _, _, _ => ⟨rfl, rfl⟩
  | t :: r, h, hL, hs => by
    have h1 : 1 ≤ (V W (dt false W M t)).f2 := hs _ List.mem_cons_self
    obtain ⟨h2, h3⟩ := V_ok hW hM (h t List.mem_cons_self) (hL t List.mem_cons_self) h1
    obtain ⟨i1, i2⟩ := fw_V hW hM r (fun u hu => h u (List.mem_cons_of_mem _ hu)) (fun u hu => hL u (List.mem_cons_of_mem _ hu)) (fun u hu => hs u (List.mem_cons_of_mem _ hu))
    refine ⟨?_, ?_⟩
    · show fw (t :: r) (V W (dt false W M t) :: E W M r) = 0
      rw [fw_ok h2, i1]
    · show wb t (V W (dt false W M t)) :: List.zipWith wb r (E W M r) = (!t.f4) :: r.map (fun t => !t.f4)
      rw [h3, i2]
theorem lasts_last {W M : Int} {l : List S27} (hd : dz W M l = 0) (hs : ∀ x ∈ E W M l, 1 ≤ x.f2) : wz l (E W M l) = 0 ∧ wo l (E W M l) = idxs 0 (l.map (fun t => !t.f4)) := by
  obtain ⟨hc, hW, hM, hL⟩ := dz_ok hd
  obtain ⟨hn1, hn2, hl⟩ := ce_ok hc
  obtain ⟨f1, f2⟩ := fw_V hW hM l hl (low_mem hL) hs
  have h0 : wz l (E W M l) = 0 := by
    unfold wz
    rw [if_pos hc, if_pos (by simp [D, E]), f1]
  exact ⟨h0, by unfold wo; rw [if_pos h0, f2]⟩
/-- How many are true. -/
def cnt : List Bool → Int
  | [] => 0
  | b :: r => if b = true then cnt r + 1 else cnt r
theorem idxs_cnt : ∀ (q : List Bool) (i : Int), ((idxs i q).length : Int) = cnt q
  | [], _ => rfl
  | b :: r, i => by
    show ((if b = true then i :: idxs (i + 1) r else idxs (i + 1) r).length : Int) = if b = true then cnt r + 1 else cnt r
    have := idxs_cnt r (i + 1)
    split
    · simp; omega
    · exact this
theorem cnt_range : ∀ q : List Bool, 0 ≤ cnt q ∧ cnt q ≤ q.length
  | [] => ⟨by decide, by decide⟩
  | b :: r => by
    have := cnt_range r
    show 0 ≤ (if b = true then cnt r + 1 else cnt r) ∧ (if b = true then cnt r + 1 else cnt r) ≤ ((b :: r).length : Int)
    split <;> simp <;> omega
theorem pins_l0 (xs : List S56) (hn : xs.length ≤ 1000) (d : Nat) : ∀ (k : Nat) (m i : Int), 0 ≤ m → m + d ≤ 1000 → 0 ≤ i → (xs.length : Int) - i = d → d < k → metrolablaw47_pins.l0 k m xs (xs.length : Int) i = some (m + cnt ((xs.drop i.toNat).map (fun x => !x.f1))) := by
  induction d with
  | zero =>
    intro k m i hm hm2 h0 hd hk
    obtain ⟨k, rfl⟩ : ∃ m, k = m + 1 := ⟨k - 1, by omega⟩
    rw [drop_end xs (by omega)]
    simp only [metrolablaw47_pins.l0]
    rw [if_neg (by omega)]; simp [cnt]
  | succ d ih =>
    intro k m i hm hm2 h0 hd hk
    obtain ⟨k, rfl⟩ : ∃ m, k = m + 1 := ⟨k - 1, by omega⟩
    have h1 : i < (xs.length : Int) := by omega
    rw [drop_rd xs z56 h0 h1]
    simp only [metrolablaw47_pins.l0]
    rw [if_pos h1, if_pos h0, if_pos h1, up64 h0 (by omega), up64 hm (by omega)]
    have hx : cnt ((xs.getD i.toNat z56 :: xs.drop (i + 1).toNat).map (fun x => !x.f1)) = if (!(rd_T56 xs i).f1) = true then cnt ((xs.drop (i + 1).toNat).map (fun x => !x.f1)) + 1 else cnt ((xs.drop (i + 1).toNat).map (fun x => !x.f1)) := rfl
    rw [hx]
    cases hb : (rd_T56 xs i).f1 with
    | true =>
      rw [if_pos rfl, ih k m (i + 1) hm (by omega) (by omega) (by omega) (by omega), if_neg (by decide)]
    | false =>
      rw [if_neg Bool.false_ne_true, ih k (m + 1) (i + 1) (by omega) (by omega) (by omega) (by omega) (by omega), if_pos (by decide)]
      congr 1; omega
theorem pins_ok (k : Nat) (xs : List S56) (hn : xs.length ≤ 900) (hk : xs.length < k) : metrolablaw47_pins.f k xs = some (cnt (xs.map (fun x => !x.f1))) := by
  unfold metrolablaw47_pins.f
  rw [pins_l0 xs (by omega) xs.length k 0 0 (by omega) (by omega) (by omega) (by omega) hk]; simp
/-- A tool's size is below 1. -/
def small : List S56 → Bool
  | [] => false
  | x :: r => decide (x.f2 < 1) || small r
theorem small_not : ∀ {xs : List S56}, small xs = false → ∀ x ∈ xs, 1 ≤ x.f2
  | [], _, x, hx => by cases hx
  | a :: r, h, x, hx => by
    have h2 : (decide (a.f2 < 1) || small r) = false := h
    rw [Bool.or_eq_false_iff] at h2
    rcases List.mem_cons.1 hx with rfl | hx
    · have := of_decide_eq_false h2.1; omega
    · exact small_not h2.2 x hx
theorem find_l0 (xs : List S56) (hn : xs.length ≤ 1000) (d : Nat) : ∀ (k : Nat) (i : Int), 0 ≤ i → (xs.length : Int) - i = d → d < k → ∃ j, gauge_Tool_91.l0 k xs (xs.length : Int) i = some j ∧ decide (j ≥ 0) = small (xs.drop i.toNat) := by
  induction d with
  | zero =>
    intro k i h0 hd hk
    obtain ⟨k, rfl⟩ : ∃ m, k = m + 1 := ⟨k - 1, by omega⟩
    rw [drop_end xs (by omega)]
    simp only [gauge_Tool_91.l0]
    rw [if_neg (by omega)]; exact ⟨_, rfl, rfl⟩
  | succ d ih =>
    intro k i h0 hd hk
    obtain ⟨k, rfl⟩ : ∃ m, k = m + 1 := ⟨k - 1, by omega⟩
    have h1 : i < (xs.length : Int) := by omega
    rw [drop_rd xs z56 h0 h1]
    simp only [gauge_Tool_91.l0, metrolablaw47_GaugeLasts_1.f, Option.bind_some, decide_eq_true_eq]
    rw [if_pos h1, if_pos h0, if_pos h1]
    have hx : small (xs.getD i.toNat z56 :: xs.drop (i + 1).toNat) = (decide ((rd_T56 xs i).f2 < 1) || small (xs.drop (i + 1).toNat)) := rfl
    rw [hx]
    by_cases hb : (rd_T56 xs i).f2 < 1
    · rw [if_pos hb, decide_eq_true hb]; exact ⟨_, rfl, by simp; omega⟩
    · rw [if_neg hb, decide_eq_false hb, up64 h0 (by omega)]
      obtain ⟨j, h2, h3⟩ := ih k (i + 1) (by omega) (by omega) (by omega)
      exact ⟨j, h2, by rw [h3]; simp⟩
theorem find_ok (k : Nat) (xs : List S56) (hn : xs.length ≤ 1000) (hk : xs.length < k) : gauge_Tool_37.f k xs = some (small xs) := by
  unfold gauge_Tool_37.f gauge_Tool_91.f
  obtain ⟨j, h2, h3⟩ := find_l0 xs hn xs.length k 0 (by omega) (by omega) hk
  rw [h2, Option.bind_some, h3]; rfl
theorem hole_l0 (xs : List S56) (ws : List Int) (hn : ws.length ≤ 1000) (hw : ∀ j ∈ ws, 0 ≤ j ∧ j < (xs.length : Int) ∧ (rd_T56 xs j).f1 = false) (d : Nat) : ∀ (k : Nat) (i : Int), 0 ≤ i → (ws.length : Int) - i = d → d < k → @slices_IndexFunc_int_int.l0 (Dat40.mk xs) k ws (ws.length : Int) i = some (-1) := by
  induction d with
  | zero =>
    intro k i h0 hd hk
    obtain ⟨k, rfl⟩ : ∃ m, k = m + 1 := ⟨k - 1, by omega⟩
    simp only [slices_IndexFunc_int_int.l0]
    rw [if_neg (by omega)]
  | succ d ih =>
    intro k i h0 hd hk
    obtain ⟨k, rfl⟩ : ∃ m, k = m + 1 := ⟨k - 1, by omega⟩
    have h1 : i < (ws.length : Int) := by omega
    have hdr : ws.drop i.toNat = rd ws i :: ws.drop (i + 1).toNat := drop_rd ws 0 h0 h1
    obtain ⟨w1, w2, w3⟩ := hw (rd ws i) (List.mem_of_mem_drop (by rw [hdr]; exact List.mem_cons_self))
    have hf : @metrolablaw47_GaugeLasts_2.f (Dat40.mk xs) (rd ws i) = some false := by
      unfold metrolablaw47_GaugeLasts_2.f
      rw [if_pos w1, if_pos (show rd ws i < ((@Dat40.made (Dat40.mk xs)).length : Int) from w2), show (rd_T56 (@Dat40.made (Dat40.mk xs)) (rd ws i)).f1 = false from w3]
    simp only [slices_IndexFunc_int_int.l0]
    rw [if_pos h1, if_pos h0, if_pos h1, hf, Option.bind_some, if_neg Bool.false_ne_true, up64 h0 (by omega)]
    exact ih k (i + 1) (by omega) (by omega) (by omega)
theorem hole_ok (k : Nat) (xs : List S56) (ws : List Int) (hn : ws.length ≤ 1000) (hk : ws.length < k) (hw : ∀ j ∈ ws, 0 ≤ j ∧ j < (xs.length : Int) ∧ (rd_T56 xs j).f1 = false) : @slices_ContainsFunc_int_int.f (Dat40.mk xs) k ws = some false := by
  unfold slices_ContainsFunc_int_int.f slices_IndexFunc_int_int.f
  rw [hole_l0 xs ws hn hw ws.length k 0 (by omega) (by omega) hk]; rfl
theorem idxs_mem : ∀ (q : List Bool) (i j : Int), j ∈ idxs i q → i ≤ j ∧ j < i + q.length ∧ q.getD (j - i).toNat false = true
  | [], _, _, h => by cases h
  | b :: r, i, j, h => by
    have h2 : j ∈ (if b = true then i :: idxs (i + 1) r else idxs (i + 1) r) := h
    have hstep : j ∈ idxs (i + 1) r → i ≤ j ∧ j < i + (b :: r).length ∧ (b :: r).getD (j - i).toNat false = true := by
      intro h3
      obtain ⟨a1, a2, a3⟩ := idxs_mem r (i + 1) j h3
      refine ⟨by omega, by simp; omega, ?_⟩
      rw [show (j - i).toNat = (j - (i + 1)).toNat + 1 by omega]
      simpa using a3
    by_cases hb : b = true
    · rw [if_pos hb] at h2
      rcases List.mem_cons.1 h2 with rfl | h3
      · exact ⟨by omega, by simp; omega, by simp [hb]⟩
      · exact hstep h3
    · rw [if_neg hb] at h2
      exact hstep h2
theorem E_len (W M : Int) (l : List S27) : (E W M l).length = l.length := by simp [E, D]
theorem E_f1 (W M : Int) (l : List S27) : (E W M l).map (fun x => !x.f1) = l.map (fun t => !t.f4) := by
  unfold E D
  rw [List.map_map, List.map_map]
  apply List.map_congr_left
  intro t _
  show (!(V W (dt false W M t)).f1) = !t.f4
  rw [V_f1]
  unfold dt mkt de
  cases hp : t.f4 <;> simp
theorem last_holes {W M : Int} {l : List S27} : ∀ j ∈ idxs 0 (l.map (fun t => !t.f4)), 0 ≤ j ∧ j < ((E W M l).length : Int) ∧ (rd_T56 (E W M l) j).f1 = false := by
  intro j hj
  obtain ⟨a1, a2, a3⟩ := idxs_mem _ 0 j hj
  rw [← E_f1 W M l] at a3 a2
  rw [List.length_map] at a2
  refine ⟨a1, by omega, ?_⟩
  have h1 : j.toNat < (E W M l).length := by omega
  rw [show (j - 0).toNat = j.toNat by omega] at a3
  have h2 := getD_map (fun x : S56 => !x.f1) (E W M l) z56 false (i := j) h1
  rw [h2] at a3
  have h3 : (!(rd_T56 (E W M l) j).f1) = true := a3
  simpa using h3
end Go.Proofs.YtjemaonejkepcaaDoor.G
namespace Go.Proofs.YtjemaonejkepcaaDoor.G
set_option linter.unusedVariables false
set_option linter.unusedSimpArgs false
open Go.Proofs.YtjemaonejkepcaaDoor.B
open Go.RowKit Go.Proofs.YtjemaonejkepcaaDoorW.PrintWords Go.Proofs.YtjemaonejkepcaaDoorW.PrintLast
/-- The first i tools are changed. -/
def upTo (f : S56 → S56) (T : List S56) (i : Int) : List S56 := (T.take i.toNat).map f ++ T.drop i.toNat
theorem upTo_len (f : S56 → S56) (T : List S56) (i : Int) : (upTo f T i).length = T.length := by
  unfold upTo; simp; omega
theorem upTo_zero (f : S56 → S56) (T : List S56) : upTo f T 0 = T := by unfold upTo; simp
theorem upTo_end (f : S56 → S56) (T : List S56) {i : Int} (h : (T.length : Int) ≤ i) : upTo f T i = T.map f := by
  unfold upTo
  rw [List.take_of_length_le (by omega), List.drop_eq_nil_of_le (by omega)]; simp
theorem upTo_rd (f : S56 → S56) (T : List S56) {i : Int} (h0 : 0 ≤ i) (h1 : i < (T.length : Int)) : rd_T56 (upTo f T i) i = rd_T56 T i := by
  have hl : ((T.take i.toNat).map f).length = i.toNat := by simp; omega
  show ((T.take i.toNat).map f ++ T.drop i.toNat).getD i.toNat z56 = T.getD i.toNat z56
  rw [List.getD_eq_getElem?_getD, List.getElem?_append_right (by omega), hl, Nat.sub_self, List.getElem?_drop, Nat.add_zero, ← List.getD_eq_getElem?_getD]
theorem upTo_set (f : S56 → S56) (T : List S56) {i : Int} (h0 : 0 ≤ i) (h1 : i < (T.length : Int)) : (upTo f T i).set i.toNat (f (rd_T56 T i)) = upTo f T (i + 1) := by
  unfold upTo rd_T56
  have h : i.toNat < T.length := by omega
  have e : (i + 1).toNat = i.toNat + 1 := by omega
  have hl : ((T.take i.toNat).map f).length = i.toNat := by simp; omega
  rw [e, List.drop_eq_getElem_cons h]
  rw [List.set_append_right _ _ (by omega), hl, Nat.sub_self, List.set_cons_zero, List.take_succ_eq_append_getElem h, List.map_append, List.append_assoc]
  simp [List.getD, h]
theorem upTo_same (f : S56 → S56) (T : List S56) {i : Int} (h0 : 0 ≤ i) (h1 : i < (T.length : Int)) (hf : f (rd_T56 T i) = rd_T56 T i) : upTo f T (i + 1) = upTo f T i := by
  rw [← upTo_set f T h0 h1, hf]
  have h : i.toNat < (upTo f T i).length := by rw [upTo_len]; omega
  have e := upTo_rd f T h0 h1
  unfold rd_T56 at e
  rw [show rd_T56 T i = (upTo f T i).getD i.toNat z56 from e.symm]
  simp [List.getD, h]
theorem upTo_small {f : S56 → S56} {T : List S56} {i : Int} (h0 : 0 ≤ i) (h1 : i < (T.length : Int)) (hs : ∀ x ∈ (T.take i.toNat).map f, 1 ≤ x.f2) (hx : 1 ≤ (f (rd_T56 T i)).f2) : ∀ x ∈ (T.take (i + 1).toNat).map f, 1 ≤ x.f2 := by
  have h : i.toNat < T.length := by omega
  have e : (i + 1).toNat = i.toNat + 1 := by omega
  rw [e, List.take_succ_eq_append_getElem h, List.map_append]
  intro x hm
  rcases List.mem_append.1 hm with hm | hm
  · exact hs x hm
  · have : x = f (rd_T56 T i) := by simpa [rd_T56, List.getD, h] using hm
    rw [this]; exact hx
theorem upTo_rd2 (f : S56 → S56) (T : List S56) {i : Int} (h0 : 0 ≤ i) (h1 : i < (T.length : Int)) : rd_T56 (upTo f T (i + 1)) i = f (rd_T56 T i) := by
  rw [← upTo_set f T h0 h1]
  have h : i.toNat < (upTo f T i).length := by rw [upTo_len]; omega
  show ((upTo f T i).set i.toNat (f (rd_T56 T i))).getD i.toNat z56 = _
  simp [List.getD, h]
theorem D_rd (high : Bool) (W M : Int) (l : List S27) {i : Int} (h1 : i.toNat < l.length) : rd_T56 (D high W M l) i = dt high W M (rd_T27 l i) := getD_map (dt high W M) l z27 z56 h1
theorem D_range {W M : Int} {l : List S27} (hd : dz W M l = 0) (high : Bool) {i : Int} (h0 : 0 ≤ i) (h1 : i < (l.length : Int)) : -400000 ≤ (rd_T56 (D high W M l) i).f2 ∧ (rd_T56 (D high W M l) i).f2 ≤ 400000 := by
  obtain ⟨hc, hW, hM, hL⟩ := dz_ok hd
  obtain ⟨hn1, hn2, hl⟩ := ce_ok hc
  have hdr : l.drop i.toNat = rd_T27 l i :: l.drop (i + 1).toNat := drop_rd l z27 h0 h1
  have hm : te (rd_T27 l i) = 0 := hl _ (List.mem_of_mem_drop (by rw [hdr]; exact List.mem_cons_self))
  rw [D_rd high W M l (by omega)]
  obtain ⟨_, _, e3, e4, e5⟩ := dt_is high hW.1 hM.1 (rd_T27 l i)
  have hv := tv_range hm
  cases hq : (rd_T27 l i).f4 with
  | true => have := e4 hq; omega
  | false => have := e5 hq; omega
/-- What the program stores as a tool's size is what U says. -/
theorem U_size {x : S56} {kk sg : Int} (hx : -400000 ≤ x.f2 ∧ x.f2 ≤ 400000) (hk : 0 ≤ kk ∧ kk ≤ 100000) (hsg : sg = if x.f1 = true then 1 else -1) : withSize x (IntKind.i64.wrap (x.f2 + IntKind.i64.wrap (sg * kk))) = U kk x := by
  unfold U
  congr 1
  rw [i64_w, i64_w, hsg]
  split
  · rw [w64 (n := 1 * kk) (by omega), w64 (by omega)]; omega
  · rw [w64 (n := -1 * kk) (by omega), w64 (by omega)]; omega
end Go.Proofs.YtjemaonejkepcaaDoor.G
