/- Texts of the law GaugeKeeps, laid together by a program of this session; what is not reached is cut. In it: words that the kit's print.sh printed, contracts of Go functions printed over the kit's printer, our own laws. Not trusted: Lean checks them. -/
import Derived.Test.YtjemaonejkepcaaDoorZKGaugeKeeps3
namespace Go.Proofs.YtjemaonejkepcaaDoor.G
open Go.Proofs.YtjemaonejkepcaaDoor.B
open Go.RowKit Go.Proofs.YtjemaonejkepcaaDoorW.PrintWords Go.Proofs.YtjemaonejkepcaaDoorW.PrintLast Go.Proofs.YtjemaonejkepcaaDoorW.PrintMore
attribute [local go_sem] max2_int min2_int max_two min_two max_three min_three max_four min_four   -- for this text's walks alone
set_option linter.unusedVariables false
set_option linter.unusedSimpArgs false
attribute [local go_sem high] eqA25
def metrolablaw47_Pair.f  : Option ((List (S27))) := some (([(⟨(⟨0, 0⟩ : S23), (⟨100, 110⟩ : S25), 8, 1, false⟩ : S27), (⟨(⟨500, 0⟩ : S23), (⟨50, 60⟩ : S25), 4, 1, true⟩ : S27)] : List (S27)))
set_option maxHeartbeats 8000000 in
set_option maxRecDepth 100000 in
theorem metrolablaw47_Pair.calls  (r : List (S27)) (w : World) (h : metrolablaw47_Pair.f  = some r) :
    Calls Tryd.prog 79 #[] w fun e w' => ∃ v0_ : Value, e = .returned (v0_) ∧ Kd.R k27 27 w' w.heap.size (fun _ => True) v0_ r ∧ Below w.heap.size w w' := by
  have hu25 := Tryd.underlying25
  have hu27 := Tryd.underlying27
  have hu23 := Tryd.underlying23
  have HB := Aside0.mk (Below.refl w.heap.size w)
  have H : (some (([(⟨(⟨0, 0⟩ : S23), (⟨100, 110⟩ : S25), 8, 1, false⟩ : S27), (⟨(⟨500, 0⟩ : S23), (⟨50, 60⟩ : S25), 4, 1, true⟩ : S27)] : List (S27)))) = some r := h
  clear h
  obtain ⟨y170, hy170⟩ : ∃ y_ : List (S27), y_ = (([(⟨(⟨0, 0⟩ : S23), (⟨100, 110⟩ : S25), 8, 1, false⟩ : S27), (⟨(⟨500, 0⟩ : S23), (⟨50, 60⟩ : S25), 4, 1, true⟩ : S27)] : List (S27))) := ⟨_, rfl⟩
  replace H : (some y170) = some r := by first | (rw [hy170]; with_reducible exact H) | (have H2_ := (Option.bind_some _ _).symm.trans H; rw [hy170]; with_reducible exact H2_) | (have H2_ := (Option.bind_some _ _).symm.trans H; with_reducible exact H2_) | with_reducible exact H | (rw [hy170]; exact H) | exact H
  have Ny170 := Aside0.mk hy170
  clear hy170
  obtain rfl := Option.some.inj H
  go_enter Tryd.func79, Tryd.ntmps79
  go_wp2_with (first | ((with_reducible refine gate_dst (N := 6) rfl ?_); refine Kd.R_lit k27 _ 27 ?hg (N := 6) ?hd (xs := ([(⟨(⟨0, 0⟩ : S23), (⟨100, 110⟩ : S25), 8, 1, false⟩ : S27), (⟨(⟨500, 0⟩ : S23), (⟨50, 60⟩ : S25), 4, 1, true⟩ : S27)] : List (S27))) (inner := [.int .i64 0, .int .i64 0, .int .i64 100, .int .i64 110, .int .i64 8, .int .i64 1, .bool false, .int .i64 500, .int .i64 0, .int .i64 50, .int .i64 60, .int .i64 4, .int .i64 1, .bool true]) (ok := fun _ => True) (okp := fun _ => True) ?hr ?hp (fun _ hk => hk) trivial (Below.refl _ _) (Nat.le_refl _) (by simp) ?_; (case hd => rfl); (case hg => rfl); (case hr => first | (go_simp; done) | (go_simp; rfl)); (case hp => exact (Reps.c7 (show Kd.M k27 _ _ _ (⟨(⟨0, 0⟩ : S23), (⟨100, 110⟩ : S25), 8, 1, false⟩ : S27) [.int .i64 0, .int .i64 0, .int .i64 100, .int .i64 110, .int .i64 8, .int .i64 1, .bool false] from (k27_mkM _ _ _ (⟨(⟨0, 0⟩ : S23), (⟨100, 110⟩ : S25), 8, 1, false⟩ : S27) )) (Reps.c7 (show Kd.M k27 _ _ _ (⟨(⟨500, 0⟩ : S23), (⟨50, 60⟩ : S25), 4, 1, true⟩ : S27) [.int .i64 500, .int .i64 0, .int .i64 50, .int .i64 60, .int .i64 4, .int .i64 1, .bool true] from (k27_mkM _ _ _ (⟨(⟨500, 0⟩ : S23), (⟨50, 60⟩ : S25), 4, 1, true⟩ : S27) )) (Reps.none _ _)))); intro v171 w1 ho2 hb hg_ hnew_; clear hg_ hnew_; (first | rw [← Ny170.out] at ho2 | (simp only [Int.reduceToNat] at ho2; rw [← Ny170.out] at ho2)); have n0_ := Aside0.mk (Kd.R_lower ho2 (below_size (by repeat (first | (with_reducible first | exact HB.out | apply below_alloc | apply pw_below_drewN | apply below_drew1) | exact HB.out)))); have n1_ := Aside0.mk (below_step (by repeat (first | (with_reducible first | exact HB.out | apply below_alloc | apply pw_below_drewN | apply below_drew1) | exact HB.out)) hb); clear HB; have HO172 := n0_; have HB := n1_; clear n0_ n1_; clear hb ho2))
  go_ret
  exact ⟨_, by first | rfl | (simp [errW_none, errW_some] <;> rfl) | (simp [*, errW_none, errW_some] <;> rfl), by (with_reducible repeat (first | apply Kd.R_alloc | apply Kd.R_drewN | apply Kd.R_drew)); exact HO172.out, by repeat (first | (with_reducible first | exact HB.out | apply below_alloc | apply pw_below_drewN | apply below_drew1) | exact HB.out)⟩
mutual
def metrolablaw47_awake.j0 : Nat → List (S27) → List (S104) → Bool → Option (Bool)
  | 0, _, _, _ => none
  | k + 1, x1, x2, x50 => if x50 = true then (some false) else ((gauge_Loss.f k x1 x2).bind fun bt184 => ((gauge_Made.f k x2 true).bind fun bt186 => (if bt184.2 = 0 then (if bt186.2 = 0 then (if bt184.1 = 5 then ((gauge_Safe.f k x1 x2).bind fun t190 => (if t190 = 0 then (metrolablaw47_awake.j1 k x1 bt186.1 ((bt186.1.length : Int) != 2)) else (metrolablaw47_awake.j1 k x1 bt186.1 true))) else (metrolablaw47_awake.j1 k x1 bt186.1 true)) else (metrolablaw47_awake.j1 k x1 bt186.1 true)) else (metrolablaw47_awake.j1 k x1 bt186.1 true))))
def metrolablaw47_awake.j1 : Nat → List (S27) → List (S56) → Bool → Option (Bool)
  | 0, _, _, _ => none
  | k + 1, x1, x5, x82 => if x82 = true then (some false) else (if 0 < (x5.length : Int) then ((some (x5.set (0 : Int).toNat (⟨(⟨(rd_T56 x5 0).f0.f0, (rd_T56 x5 0).f0.f1⟩ : S23), (rd_T56 x5 0).f1, 91⟩ : S56) : List (S56))).bind fun y191 => (if 1 < (x5.length : Int) then ((gauge_Worn.f k x1 (y191.set (1 : Int).toNat (⟨(⟨(rd_T56 y191 1).f0.f0, (rd_T56 y191 1).f0.f1⟩ : S23), (rd_T56 y191 1).f1, 64⟩ : S56))).bind fun bt193 => (if bt193.2 = 0 then ((slices_Equal_int_int.f k bt193.1 (([0] : List Int))).bind fun t200 => (some t200)) else (some false))) else (none))) else (none))
end
def metrolablaw47_awake.f (k : Nat)  : Option (Bool) := (metrolablaw47_Pair.f).bind fun t173 => ((gauge_Design.f k t173 2 3).bind fun bt176 => (if bt176.2 = 0 then (if (bt176.1.length : Int) = 2 then (if 0 < (bt176.1.length : Int) then (if (!(((rd_T104 bt176.1 0).f2.f0) == 94) || (!(((rd_T104 bt176.1 0).f2.f1) == 97))) = true then (metrolablaw47_awake.j0 k t173 bt176.1 true) else (if (rd_T104 bt176.1 0).f1 = true then (metrolablaw47_awake.j0 k t173 bt176.1 true) else (if 1 < (bt176.1.length : Int) then (if (!(((rd_T104 bt176.1 1).f2.f0) == 59) || (!(((rd_T104 bt176.1 1).f2.f1) == 62))) = true then (metrolablaw47_awake.j0 k t173 bt176.1 true) else (metrolablaw47_awake.j0 k t173 bt176.1 (!((rd_T104 bt176.1 1).f1)))) else (none)))) else (none)) else (metrolablaw47_awake.j0 k t173 bt176.1 true)) else (metrolablaw47_awake.j0 k t173 bt176.1 true)))
theorem metrolablaw47_awake.mono_l : ∀ k, (∀ y0 y1 y2, LeO (metrolablaw47_awake.j0 k y0 y1 y2) (metrolablaw47_awake.j0 (k + 1) y0 y1 y2)) ∧ (∀ y0 y1 y2, LeO (metrolablaw47_awake.j1 k y0 y1 y2) (metrolablaw47_awake.j1 (k + 1) y0 y1 y2))
  | 0 => ⟨fun _ _ _ r h => by simp [metrolablaw47_awake.j0] at h, fun _ _ _ r h => by simp [metrolablaw47_awake.j1] at h⟩
  | k + 1 => by
    obtain ⟨ih0, ih1⟩ := metrolablaw47_awake.mono_l k
    refine ⟨?_, ?_⟩
    · intro y0 y1 y2
      unfold metrolablaw47_awake.j0
      repeat' first
      | (with_reducible exact ih0 _ _ _)
      | (with_reducible exact ih1 _ _ _)
      | (with_reducible exact gauge_Design.mono _ _ _ _)
      | (with_reducible exact gauge_Loss.mono _ _ _)
      | (with_reducible exact gauge_Made.mono _ _ _)
      | (with_reducible exact gauge_Safe.mono _ _ _)
      | (with_reducible exact gauge_Worn.mono _ _ _)
      | (with_reducible exact slices_Equal_int_int.mono _ _ _)
      | (with_reducible exact LeO.refl _)
      | (with_reducible exact LeO.none _)
      | (with_reducible refine LeO.ite ?_ ?_)
      | (with_reducible refine LeO.bind ?_ (fun _ => ?_))
      | exact ih0 _ _ _
      | exact ih1 _ _ _
      | exact gauge_Design.mono _ _ _ _
      | exact gauge_Loss.mono _ _ _
      | exact gauge_Made.mono _ _ _
      | exact gauge_Safe.mono _ _ _
      | exact gauge_Worn.mono _ _ _
      | exact slices_Equal_int_int.mono _ _ _
      | exact LeO.none _
      | refine LeO.ite ?_ ?_
      | refine LeO.bind ?_ (fun _ => ?_)
    · intro y0 y1 y2
      unfold metrolablaw47_awake.j1
      repeat' first
      | (with_reducible exact ih0 _ _ _)
      | (with_reducible exact ih1 _ _ _)
      | (with_reducible exact gauge_Design.mono _ _ _ _)
      | (with_reducible exact gauge_Loss.mono _ _ _)
      | (with_reducible exact gauge_Made.mono _ _ _)
      | (with_reducible exact gauge_Safe.mono _ _ _)
      | (with_reducible exact gauge_Worn.mono _ _ _)
      | (with_reducible exact slices_Equal_int_int.mono _ _ _)
      | (with_reducible exact LeO.refl _)
      | (with_reducible exact LeO.none _)
      | (with_reducible refine LeO.ite ?_ ?_)
      | (with_reducible refine LeO.bind ?_ (fun _ => ?_))
      | exact ih0 _ _ _
      | exact ih1 _ _ _
      | exact gauge_Design.mono _ _ _ _
      | exact gauge_Loss.mono _ _ _
      | exact gauge_Made.mono _ _ _
      | exact gauge_Safe.mono _ _ _
      | exact gauge_Worn.mono _ _ _
      | exact slices_Equal_int_int.mono _ _ _
      | exact LeO.none _
      | refine LeO.ite ?_ ?_
      | refine LeO.bind ?_ (fun _ => ?_)
theorem metrolablaw47_awake.mono : ∀ k, LeO (metrolablaw47_awake.f k ) (metrolablaw47_awake.f (k + 1) ) := by
  intro  k
  obtain ⟨ih0, ih1⟩ := metrolablaw47_awake.mono_l k
  unfold metrolablaw47_awake.f
  repeat' first
      | (with_reducible exact ih0 _ _ _)
      | (with_reducible exact ih1 _ _ _)
      | (with_reducible exact gauge_Design.mono _ _ _ _)
      | (with_reducible exact gauge_Loss.mono _ _ _)
      | (with_reducible exact gauge_Made.mono _ _ _)
      | (with_reducible exact gauge_Safe.mono _ _ _)
      | (with_reducible exact gauge_Worn.mono _ _ _)
      | (with_reducible exact slices_Equal_int_int.mono _ _ _)
      | (with_reducible exact LeO.refl _)
      | (with_reducible exact LeO.none _)
      | (with_reducible refine LeO.ite ?_ ?_)
      | (with_reducible refine LeO.bind ?_ (fun _ => ?_))
      | exact ih0 _ _ _
      | exact ih1 _ _ _
      | exact gauge_Design.mono _ _ _ _
      | exact gauge_Loss.mono _ _ _
      | exact gauge_Made.mono _ _ _
      | exact gauge_Safe.mono _ _ _
      | exact gauge_Worn.mono _ _ _
      | exact slices_Equal_int_int.mono _ _ _
      | exact LeO.none _
      | refine LeO.ite ?_ ?_
      | refine LeO.bind ?_ (fun _ => ?_)
set_option maxHeartbeats 8000000 in
set_option maxRecDepth 100000 in
theorem metrolablaw47_awake.calls (k : Nat)  (r : Bool) (w : World) (h : metrolablaw47_awake.f k  = some r) (hS : SignsAt w) :
    Calls Tryd.prog 30 #[] w fun e w' => e = .returned (.bool r) ∧ Below w.heap.size w w' := by
  have HS := Aside0.mk hS
  clear hS
  have hu44 := Tryd.underlying44
  have hu25 := Tryd.underlying25
  have HB := Aside0.mk (Below.refl w.heap.size w)
  have H : ((metrolablaw47_Pair.f).bind fun t173 => ((gauge_Design.f k t173 2 3).bind fun bt176 => (if bt176.2 = 0 then (if (bt176.1.length : Int) = 2 then (if 0 < (bt176.1.length : Int) then (if (!(((rd_T104 bt176.1 0).f2.f0) == 94) || (!(((rd_T104 bt176.1 0).f2.f1) == 97))) = true then (metrolablaw47_awake.j0 k t173 bt176.1 true) else (if (rd_T104 bt176.1 0).f1 = true then (metrolablaw47_awake.j0 k t173 bt176.1 true) else (if 1 < (bt176.1.length : Int) then (if (!(((rd_T104 bt176.1 1).f2.f0) == 59) || (!(((rd_T104 bt176.1 1).f2.f1) == 62))) = true then (metrolablaw47_awake.j0 k t173 bt176.1 true) else (metrolablaw47_awake.j0 k t173 bt176.1 (!((rd_T104 bt176.1 1).f1)))) else (none)))) else (none)) else (metrolablaw47_awake.j0 k t173 bt176.1 true)) else (metrolablaw47_awake.j0 k t173 bt176.1 true)))) = some r := h
  clear h
  replace H := Option.bind_eq_some_iff.mp H
  obtain ⟨t173, A10, H⟩ := H
  replace H : ((gauge_Design.f k t173 2 3).bind fun bt176 => (if bt176.2 = 0 then (if (bt176.1.length : Int) = 2 then (if 0 < (bt176.1.length : Int) then (if (!(((rd_T104 bt176.1 0).f2.f0) == 94) || (!(((rd_T104 bt176.1 0).f2.f1) == 97))) = true then (metrolablaw47_awake.j0 k t173 bt176.1 true) else (if (rd_T104 bt176.1 0).f1 = true then (metrolablaw47_awake.j0 k t173 bt176.1 true) else (if 1 < (bt176.1.length : Int) then (if (!(((rd_T104 bt176.1 1).f2.f0) == 59) || (!(((rd_T104 bt176.1 1).f2.f1) == 62))) = true then (metrolablaw47_awake.j0 k t173 bt176.1 true) else (metrolablaw47_awake.j0 k t173 bt176.1 (!((rd_T104 bt176.1 1).f1)))) else (none)))) else (none)) else (metrolablaw47_awake.j0 k t173 bt176.1 true)) else (metrolablaw47_awake.j0 k t173 bt176.1 true))) = some r := H
  have A1 := Aside0.mk A10
  clear A10
  replace H := Option.bind_eq_some_iff.mp H
  obtain ⟨⟨t176, t179⟩, A20, H⟩ := H
  replace H : (if t179 = 0 then (if (t176.length : Int) = 2 then (if 0 < (t176.length : Int) then (if (!(((rd_T104 t176 0).f2.f0) == 94) || (!(((rd_T104 t176 0).f2.f1) == 97))) = true then (metrolablaw47_awake.j0 k t173 t176 true) else (if (rd_T104 t176 0).f1 = true then (metrolablaw47_awake.j0 k t173 t176 true) else (if 1 < (t176.length : Int) then (if (!(((rd_T104 t176 1).f2.f0) == 59) || (!(((rd_T104 t176 1).f2.f1) == 62))) = true then (metrolablaw47_awake.j0 k t173 t176 true) else (metrolablaw47_awake.j0 k t173 t176 (!((rd_T104 t176 1).f1)))) else (none)))) else (none)) else (metrolablaw47_awake.j0 k t173 t176 true)) else (metrolablaw47_awake.j0 k t173 t176 true)) = some r := H
  have A2 := Aside0.mk A20
  clear A20
  have HC3 := Aside0.mk H
  clear H
  go_enter Tryd.func30, Tryd.ntmps30
  go_upto_region 3 with (first | ((with_reducible refine gate_callee (f := 79) rfl ?_); refine goesL_ (some 8) rfl rfl Tryd.func79 (by kernel_rfl) rfl #[] rfl (by (try simp only [List.map_toArray, List.map_cons, List.map_nil]); first | done | rfl | (simp only [List.length_drop, List.length_take]; rfl)) ?_; (with_reducible refine (metrolablaw47_Pair.calls  t173 _ A1.out).mono ?_); rintro e w4 ⟨v174, rfl, ho0, hb⟩; refine ⟨_, rfl, ?_⟩; have n0_ := Aside0.mk (Kd.R_lower ho0 (below_size (by repeat (first | (with_reducible first | exact HB.out | apply below_alloc | apply pw_below_drewN | apply below_drew1) | exact HB.out)))); have n1_ := Aside0.mk (below_step (by repeat (first | (with_reducible first | exact HB.out | apply below_alloc | apply pw_below_drewN | apply below_drew1) | exact HB.out)) hb); clear HB; have HO175 := n0_; have HB := n1_; clear n0_ n1_; (try clear hb); (try clear hb2); (try clear hk); (try clear hi); (try clear ho0); obtain ⟨Ao5, co5, eo5⟩ := Kd.R_slice HO175.out; subst eo5) | ((with_reducible refine gate_callee (f := 31) rfl ?_); refine goesL_ (some 12) rfl rfl Tryd.func31 (by kernel_rfl) rfl #[.slice Ao5 t173.length co5, .agg #[.int .i64 2, .int .i64 3]] rfl (by (try simp only [List.map_toArray, List.map_cons, List.map_nil]); first | done | rfl | (simp only [List.length_drop, List.length_take]; rfl)) ?_; (with_reducible refine (gauge_Design.calls k _ _ t173 2 3 t176 t179 _ ?side1 ?side2 A2.out (by exact sig_below HS.out (by repeat (first | (with_reducible first | exact HB.out | apply below_alloc | apply pw_below_drewN | apply below_drew1 | fail) | exact HB.out)))).mono ?_); (case side1 => repeat (first | exact (Kd.R_reads' HO175.out).2.2 | (with_reducible refine Kd.C_alloc ?_ _) | (with_reducible refine Kd.C_drewN ?_ _) | (with_reducible refine Kd.C_drew ?_))); (case side2 => exact (Kd.R_reads' HO175.out).2.1); rintro e w6 ⟨v177, rfl, ho0, hb⟩; refine ⟨_, rfl, ?_⟩; have n0_ := Aside0.mk (Kd.R_below (by (with_reducible repeat (first | apply Kd.R_alloc | apply Kd.R_drewN | apply Kd.R_drew)); exact HO175.out) hb); have n1_ := Aside0.mk (Kd.R_lower ho0 (below_size (by repeat (first | (with_reducible first | exact HB.out | apply below_alloc | apply pw_below_drewN | apply below_drew1) | exact HB.out)))); have n2_ := Aside0.mk (below_step (by repeat (first | (with_reducible first | exact HB.out | apply below_alloc | apply pw_below_drewN | apply below_drew1) | exact HB.out)) hb); clear HO175; clear HB; have HO175 := n0_; have HO178 := n1_; have HB := n2_; clear n0_ n1_ n2_; (try clear hb); (try clear hb2); (try clear hk); (try clear hi); (try clear ho0)))
  (try simp only [Act.put, List.setIfInBounds_toArray, List.set_cons_zero, List.set_cons_succ])
  go_cut [50] (fun v50 wc => ∃ (kq : Nat) (x50_2 : Bool), v50 = .bool x50_2 ∧ Aside0 (metrolablaw47_awake.j0 kq t173 t176 x50_2 = some r) ∧ Aside0 (kq ≤ k) ∧ Aside0 (Kd.R k27 27 wc w.heap.size (fun _ => True) (.slice Ao5 t173.length co5) t173) ∧ Aside0 (Kd.R k104 104 wc w.heap.size (fun _ => True) v177 t176) ∧ Aside0 (Below w.heap.size w wc))
  case first =>
    have H := HC3.out
    clear HC3
    by_cases c7 : t179 = 0
    · rw [if_pos c7] at H
      have c7b0 : (t179 == 0) = true := beq_iff_eq.mpr c7
      have c7b1 : (t179 != 0) = false := bne_eq_false_iff_eq.mpr c7
      clear c7
      (first | rw [c7b0] | (simp only [i64_w, i32_w]; rw [c7b0]) | skip)
      by_cases c8 : (t176.length : Int) = 2
      · rw [if_pos c8] at H
        have c8b0 : ((t176.length : Int) == 2) = true := beq_iff_eq.mpr c8
        have c8b1 : ((t176.length : Int) != 2) = false := bne_eq_false_iff_eq.mpr c8
        clear c8
        by_cases c9 : 0 < (t176.length : Int)
        · rw [if_pos c9] at H
          have c9b0 : decide (0 < (t176.length : Int)) = true := decide_eq_true c9
          have c9b1 : decide (0 < t176.length) = true := decide_eq_true (by omega)
          clear c9
          by_cases c10 : (!(((rd_T104 t176 0).f2.f0) == 94) || (!(((rd_T104 t176 0).f2.f1) == 97))) = true
          · rw [if_pos c10] at H
            have c10b0 : (!(((rd_T104 t176 0).f2.f0) == 94) || (!(((rd_T104 t176 0).f2.f1) == 97))) = true := c10
            clear c10
            have H' := Aside0.mk H
            clear H
            obtain ⟨Ao11, co11, eo11⟩ := Kd.R_slice HO178.out
            subst eo11
            have p180 : 0 ≤ (0 : Int) := (by omega)
            have q180 : 0 < (t176.length : Int) := of_decide_eq_true (by first | (with_reducible assumption) | assumption)
            obtain ⟨ad180, e180, hx180_0, hx180_1, hx180_2, hx180_3, hx180_4⟩ := at_T104 (Kd.R_reads' HO178.out).2.2 0 p180 q180
            cases e180
            have qi180 : (0 < t176.length) = True := eq_true (by omega)
            (try rw [show ((0 : Int)).toNat = 0 from rfl] at hx180_0)
            (try rw [show 0 * 5 = 0 from rfl] at hx180_0)
            (try rw [Addr.add_zero'] at hx180_0)
            (try rw [show ((0 : Int)).toNat = 0 from rfl] at hx180_1)
            (try rw [show 0 * 5 = 0 from rfl] at hx180_1)
            (try rw [Addr.add_zero'] at hx180_1)
            (try rw [show ((0 : Int)).toNat = 0 from rfl] at hx180_2)
            (try rw [show 0 * 5 = 0 from rfl] at hx180_2)
            (try rw [Addr.add_zero'] at hx180_2)
            (try rw [show ((0 : Int)).toNat = 0 from rfl] at hx180_3)
            (try rw [show 0 * 5 = 0 from rfl] at hx180_3)
            (try rw [Addr.add_zero'] at hx180_3)
            (try rw [show ((0 : Int)).toNat = 0 from rfl] at hx180_4)
            (try rw [show 0 * 5 = 0 from rfl] at hx180_4)
            (try rw [Addr.add_zero'] at hx180_4)
            replace p180 := eq_true p180
            replace q180 := eq_true q180
            go_wp2
            go_meet
            case rel => exact ⟨_, (true), (by first | rfl | (simp; done) | (simp [*]; done)), H', ⟨by first | omega | exact Nat.le_refl _⟩, ⟨by (with_reducible repeat (first | apply Kd.R_alloc | apply Kd.R_drewN | apply Kd.R_drew)); exact HO175.out⟩, ⟨by (with_reducible repeat (first | apply Kd.R_alloc | apply Kd.R_drewN | apply Kd.R_drew)); exact HO178.out⟩, ⟨by repeat (first | (with_reducible first | exact HB.out | apply below_alloc | apply pw_below_drewN | apply below_drew1) | exact HB.out)⟩⟩
          · rw [if_neg c10] at H
            have c10b0 : (!(((rd_T104 t176 0).f2.f0) == 94) || (!(((rd_T104 t176 0).f2.f1) == 97))) = false := by simpa using c10
            clear c10
            obtain ⟨bq12, hbq12⟩ : ∃ b_ : Bool, b_ = ((rd_T104 t176 0).f1) := ⟨_, rfl⟩
            replace H : (if bq12 = true then (metrolablaw47_awake.j0 k t173 t176 true) else (if 1 < (t176.length : Int) then (if (!(((rd_T104 t176 1).f2.f0) == 59) || (!(((rd_T104 t176 1).f2.f1) == 62))) = true then (metrolablaw47_awake.j0 k t173 t176 true) else (metrolablaw47_awake.j0 k t173 t176 (!((rd_T104 t176 1).f1)))) else (none))) = some r := by rw [← hbq12] at H; exact H
            have Nbq12 := Aside0.mk hbq12
            clear hbq12
            by_cases c13 : bq12 = true
            · subst c13
              have H1 : (metrolablaw47_awake.j0 k t173 t176 true) = some r := by rw [if_pos rfl] at H; exact H
              clear H
              have H := H1
              clear H1
              have H' := Aside0.mk H
              clear H
              obtain ⟨Ao14, co14, eo14⟩ := Kd.R_slice HO178.out
              subst eo14
              have p180 : 0 ≤ (0 : Int) := (by omega)
              have q180 : 0 < (t176.length : Int) := of_decide_eq_true (by first | (with_reducible assumption) | assumption)
              obtain ⟨ad180, e180, hx180_0, hx180_1, hx180_2, hx180_3, hx180_4⟩ := at_T104 (Kd.R_reads' HO178.out).2.2 0 p180 q180
              (try rw [← Nbq12.out] at hx180_2)
              cases e180
              have qi180 : (0 < t176.length) = True := eq_true (by omega)
              (try rw [show ((0 : Int)).toNat = 0 from rfl] at hx180_0)
              (try rw [show 0 * 5 = 0 from rfl] at hx180_0)
              (try rw [Addr.add_zero'] at hx180_0)
              (try rw [show ((0 : Int)).toNat = 0 from rfl] at hx180_1)
              (try rw [show 0 * 5 = 0 from rfl] at hx180_1)
              (try rw [Addr.add_zero'] at hx180_1)
              (try rw [show ((0 : Int)).toNat = 0 from rfl] at hx180_2)
              (try rw [show 0 * 5 = 0 from rfl] at hx180_2)
              (try rw [Addr.add_zero'] at hx180_2)
              (try rw [show ((0 : Int)).toNat = 0 from rfl] at hx180_3)
              (try rw [show 0 * 5 = 0 from rfl] at hx180_3)
              (try rw [Addr.add_zero'] at hx180_3)
              (try rw [show ((0 : Int)).toNat = 0 from rfl] at hx180_4)
              (try rw [show 0 * 5 = 0 from rfl] at hx180_4)
              (try rw [Addr.add_zero'] at hx180_4)
              replace p180 := eq_true p180
              replace q180 := eq_true q180
              have p181 : 0 ≤ (0 : Int) := (by omega)
              have q181 : 0 < (t176.length : Int) := of_decide_eq_true (by first | (with_reducible assumption) | assumption)
              obtain ⟨ad181, e181, hx181_0, hx181_1, hx181_2, hx181_3, hx181_4⟩ := at_T104 (Kd.R_reads' HO178.out).2.2 0 p181 q181
              (try rw [← Nbq12.out] at hx181_2)
              obtain rfl : ad180 = ad181 := (by injection e181)
              have qi181 : (0 < t176.length) = True := eq_true (by omega)
              (try rw [show ((0 : Int)).toNat = 0 from rfl] at hx181_0)
              (try rw [show 0 * 5 = 0 from rfl] at hx181_0)
              (try rw [Addr.add_zero'] at hx181_0)
              (try rw [show ((0 : Int)).toNat = 0 from rfl] at hx181_1)
              (try rw [show 0 * 5 = 0 from rfl] at hx181_1)
              (try rw [Addr.add_zero'] at hx181_1)
              (try rw [show ((0 : Int)).toNat = 0 from rfl] at hx181_2)
              (try rw [show 0 * 5 = 0 from rfl] at hx181_2)
              (try rw [Addr.add_zero'] at hx181_2)
              (try rw [show ((0 : Int)).toNat = 0 from rfl] at hx181_3)
              (try rw [show 0 * 5 = 0 from rfl] at hx181_3)
              (try rw [Addr.add_zero'] at hx181_3)
              (try rw [show ((0 : Int)).toNat = 0 from rfl] at hx181_4)
              (try rw [show 0 * 5 = 0 from rfl] at hx181_4)
              (try rw [Addr.add_zero'] at hx181_4)
              replace p181 := eq_true p181
              replace q181 := eq_true q181
              go_wp2
              go_meet
              case rel => exact ⟨_, (true), (by first | rfl | (simp; done) | (simp [*]; done)), H', ⟨by first | omega | exact Nat.le_refl _⟩, ⟨by (with_reducible repeat (first | apply Kd.R_alloc | apply Kd.R_drewN | apply Kd.R_drew)); exact HO175.out⟩, ⟨by (with_reducible repeat (first | apply Kd.R_alloc | apply Kd.R_drewN | apply Kd.R_drew)); exact HO178.out⟩, ⟨by repeat (first | (with_reducible first | exact HB.out | apply below_alloc | apply pw_below_drewN | apply below_drew1) | exact HB.out)⟩⟩
            · replace c13 := Bool.eq_false_iff.mpr c13
              subst c13
              have H1 : (if 1 < (t176.length : Int) then (if (!(((rd_T104 t176 1).f2.f0) == 59) || (!(((rd_T104 t176 1).f2.f1) == 62))) = true then (metrolablaw47_awake.j0 k t173 t176 true) else (metrolablaw47_awake.j0 k t173 t176 (!((rd_T104 t176 1).f1)))) else (none)) = some r := by rw [if_neg (show ¬ (false = true) by decide)] at H; exact H
              clear H
              have H := H1
              clear H1
              by_cases c15 : 1 < (t176.length : Int)
              · rw [if_pos c15] at H
                have c15b0 : decide (1 < (t176.length : Int)) = true := decide_eq_true c15
                have c15b1 : decide (1 < t176.length) = true := decide_eq_true (by omega)
                clear c15
                by_cases c16 : (!(((rd_T104 t176 1).f2.f0) == 59) || (!(((rd_T104 t176 1).f2.f1) == 62))) = true
                · rw [if_pos c16] at H
                  have c16b0 : (!(((rd_T104 t176 1).f2.f0) == 59) || (!(((rd_T104 t176 1).f2.f1) == 62))) = true := c16
                  clear c16
                  have H' := Aside0.mk H
                  clear H
                  obtain ⟨Ao17, co17, eo17⟩ := Kd.R_slice HO178.out
                  subst eo17
                  have p180 : 0 ≤ (0 : Int) := (by omega)
                  have q180 : 0 < (t176.length : Int) := of_decide_eq_true (by first | (with_reducible assumption) | assumption)
                  obtain ⟨ad180, e180, hx180_0, hx180_1, hx180_2, hx180_3, hx180_4⟩ := at_T104 (Kd.R_reads' HO178.out).2.2 0 p180 q180
                  (try rw [← Nbq12.out] at hx180_2)
                  cases e180
                  have qi180 : (0 < t176.length) = True := eq_true (by omega)
                  (try rw [show ((0 : Int)).toNat = 0 from rfl] at hx180_0)
                  (try rw [show 0 * 5 = 0 from rfl] at hx180_0)
                  (try rw [Addr.add_zero'] at hx180_0)
                  (try rw [show ((0 : Int)).toNat = 0 from rfl] at hx180_1)
                  (try rw [show 0 * 5 = 0 from rfl] at hx180_1)
                  (try rw [Addr.add_zero'] at hx180_1)
                  (try rw [show ((0 : Int)).toNat = 0 from rfl] at hx180_2)
                  (try rw [show 0 * 5 = 0 from rfl] at hx180_2)
                  (try rw [Addr.add_zero'] at hx180_2)
                  (try rw [show ((0 : Int)).toNat = 0 from rfl] at hx180_3)
                  (try rw [show 0 * 5 = 0 from rfl] at hx180_3)
                  (try rw [Addr.add_zero'] at hx180_3)
                  (try rw [show ((0 : Int)).toNat = 0 from rfl] at hx180_4)
                  (try rw [show 0 * 5 = 0 from rfl] at hx180_4)
                  (try rw [Addr.add_zero'] at hx180_4)
                  replace p180 := eq_true p180
                  replace q180 := eq_true q180
                  have p181 : 0 ≤ (0 : Int) := (by omega)
                  have q181 : 0 < (t176.length : Int) := of_decide_eq_true (by first | (with_reducible assumption) | assumption)
                  obtain ⟨ad181, e181, hx181_0, hx181_1, hx181_2, hx181_3, hx181_4⟩ := at_T104 (Kd.R_reads' HO178.out).2.2 0 p181 q181
                  (try rw [← Nbq12.out] at hx181_2)
                  obtain rfl : ad180 = ad181 := (by injection e181)
                  have qi181 : (0 < t176.length) = True := eq_true (by omega)
                  (try rw [show ((0 : Int)).toNat = 0 from rfl] at hx181_0)
                  (try rw [show 0 * 5 = 0 from rfl] at hx181_0)
                  (try rw [Addr.add_zero'] at hx181_0)
                  (try rw [show ((0 : Int)).toNat = 0 from rfl] at hx181_1)
                  (try rw [show 0 * 5 = 0 from rfl] at hx181_1)
                  (try rw [Addr.add_zero'] at hx181_1)
                  (try rw [show ((0 : Int)).toNat = 0 from rfl] at hx181_2)
                  (try rw [show 0 * 5 = 0 from rfl] at hx181_2)
                  (try rw [Addr.add_zero'] at hx181_2)
                  (try rw [show ((0 : Int)).toNat = 0 from rfl] at hx181_3)
                  (try rw [show 0 * 5 = 0 from rfl] at hx181_3)
                  (try rw [Addr.add_zero'] at hx181_3)
                  (try rw [show ((0 : Int)).toNat = 0 from rfl] at hx181_4)
                  (try rw [show 0 * 5 = 0 from rfl] at hx181_4)
                  (try rw [Addr.add_zero'] at hx181_4)
                  replace p181 := eq_true p181
                  replace q181 := eq_true q181
                  have p182 : 0 ≤ (1 : Int) := (by omega)
                  have q182 : 1 < (t176.length : Int) := of_decide_eq_true (by first | (with_reducible assumption) | assumption)
                  obtain ⟨ad182, e182, hx182_0, hx182_1, hx182_2, hx182_3, hx182_4⟩ := at_T104 (Kd.R_reads' HO178.out).2.2 1 p182 q182
                  (try rw [← Nbq12.out] at hx182_2)
                  obtain rfl : ad180 = ad182 := (by injection e182)
                  (try simp only [show (1 : Int).toNat = 1 from rfl, Nat.reduceMul, Nat.reduceEqDiff, Go.Addr.add, ↓reduceIte] at hx182_0)
                  (try simp only [show (1 : Int).toNat = 1 from rfl, Nat.reduceMul, Nat.reduceEqDiff, Go.Addr.add, ↓reduceIte] at hx182_1)
                  (try simp only [show (1 : Int).toNat = 1 from rfl, Nat.reduceMul, Nat.reduceEqDiff, Go.Addr.add, ↓reduceIte] at hx182_2)
                  (try simp only [show (1 : Int).toNat = 1 from rfl, Nat.reduceMul, Nat.reduceEqDiff, Go.Addr.add, ↓reduceIte] at hx182_3)
                  (try simp only [show (1 : Int).toNat = 1 from rfl, Nat.reduceMul, Nat.reduceEqDiff, Go.Addr.add, ↓reduceIte] at hx182_4)
                  have qi182 : (1 < t176.length) = True := eq_true (by omega)
                  (try rw [show ((1 : Int)).toNat = 1 from rfl] at hx182_0)
                  (try rw [show 1 * 5 = 5 from rfl] at hx182_0)
                  (try rw [show ((1 : Int)).toNat = 1 from rfl] at hx182_1)
                  (try rw [show 1 * 5 = 5 from rfl] at hx182_1)
                  (try rw [show ((1 : Int)).toNat = 1 from rfl] at hx182_2)
                  (try rw [show 1 * 5 = 5 from rfl] at hx182_2)
                  (try rw [show ((1 : Int)).toNat = 1 from rfl] at hx182_3)
                  (try rw [show 1 * 5 = 5 from rfl] at hx182_3)
                  (try rw [show ((1 : Int)).toNat = 1 from rfl] at hx182_4)
                  (try rw [show 1 * 5 = 5 from rfl] at hx182_4)
                  replace p182 := eq_true p182
                  replace q182 := eq_true q182
                  go_wp2
                  go_meet
                  case rel => exact ⟨_, (true), (by first | rfl | (simp; done) | (simp [*]; done)), H', ⟨by first | omega | exact Nat.le_refl _⟩, ⟨by (with_reducible repeat (first | apply Kd.R_alloc | apply Kd.R_drewN | apply Kd.R_drew)); exact HO175.out⟩, ⟨by (with_reducible repeat (first | apply Kd.R_alloc | apply Kd.R_drewN | apply Kd.R_drew)); exact HO178.out⟩, ⟨by repeat (first | (with_reducible first | exact HB.out | apply below_alloc | apply pw_below_drewN | apply below_drew1) | exact HB.out)⟩⟩
                · rw [if_neg c16] at H
                  have c16b0 : (!(((rd_T104 t176 1).f2.f0) == 59) || (!(((rd_T104 t176 1).f2.f1) == 62))) = false := by simpa using c16
                  clear c16
                  have H' := Aside0.mk H
                  clear H
                  obtain ⟨Ao18, co18, eo18⟩ := Kd.R_slice HO178.out
                  subst eo18
                  have p180 : 0 ≤ (0 : Int) := (by omega)
                  have q180 : 0 < (t176.length : Int) := of_decide_eq_true (by first | (with_reducible assumption) | assumption)
                  obtain ⟨ad180, e180, hx180_0, hx180_1, hx180_2, hx180_3, hx180_4⟩ := at_T104 (Kd.R_reads' HO178.out).2.2 0 p180 q180
                  (try rw [← Nbq12.out] at hx180_2)
                  cases e180
                  have qi180 : (0 < t176.length) = True := eq_true (by omega)
                  (try rw [show ((0 : Int)).toNat = 0 from rfl] at hx180_0)
                  (try rw [show 0 * 5 = 0 from rfl] at hx180_0)
                  (try rw [Addr.add_zero'] at hx180_0)
                  (try rw [show ((0 : Int)).toNat = 0 from rfl] at hx180_1)
                  (try rw [show 0 * 5 = 0 from rfl] at hx180_1)
                  (try rw [Addr.add_zero'] at hx180_1)
                  (try rw [show ((0 : Int)).toNat = 0 from rfl] at hx180_2)
                  (try rw [show 0 * 5 = 0 from rfl] at hx180_2)
                  (try rw [Addr.add_zero'] at hx180_2)
                  (try rw [show ((0 : Int)).toNat = 0 from rfl] at hx180_3)
                  (try rw [show 0 * 5 = 0 from rfl] at hx180_3)
                  (try rw [Addr.add_zero'] at hx180_3)
                  (try rw [show ((0 : Int)).toNat = 0 from rfl] at hx180_4)
                  (try rw [show 0 * 5 = 0 from rfl] at hx180_4)
                  (try rw [Addr.add_zero'] at hx180_4)
                  replace p180 := eq_true p180
                  replace q180 := eq_true q180
                  have p181 : 0 ≤ (0 : Int) := (by omega)
                  have q181 : 0 < (t176.length : Int) := of_decide_eq_true (by first | (with_reducible assumption) | assumption)
                  obtain ⟨ad181, e181, hx181_0, hx181_1, hx181_2, hx181_3, hx181_4⟩ := at_T104 (Kd.R_reads' HO178.out).2.2 0 p181 q181
                  (try rw [← Nbq12.out] at hx181_2)
                  obtain rfl : ad180 = ad181 := (by injection e181)
                  have qi181 : (0 < t176.length) = True := eq_true (by omega)
                  (try rw [show ((0 : Int)).toNat = 0 from rfl] at hx181_0)
                  (try rw [show 0 * 5 = 0 from rfl] at hx181_0)
                  (try rw [Addr.add_zero'] at hx181_0)
                  (try rw [show ((0 : Int)).toNat = 0 from rfl] at hx181_1)
                  (try rw [show 0 * 5 = 0 from rfl] at hx181_1)
                  (try rw [Addr.add_zero'] at hx181_1)
                  (try rw [show ((0 : Int)).toNat = 0 from rfl] at hx181_2)
                  (try rw [show 0 * 5 = 0 from rfl] at hx181_2)
                  (try rw [Addr.add_zero'] at hx181_2)
                  (try rw [show ((0 : Int)).toNat = 0 from rfl] at hx181_3)
                  (try rw [show 0 * 5 = 0 from rfl] at hx181_3)
                  (try rw [Addr.add_zero'] at hx181_3)
                  (try rw [show ((0 : Int)).toNat = 0 from rfl] at hx181_4)
                  (try rw [show 0 * 5 = 0 from rfl] at hx181_4)
                  (try rw [Addr.add_zero'] at hx181_4)
                  replace p181 := eq_true p181
                  replace q181 := eq_true q181
                  have p182 : 0 ≤ (1 : Int) := (by omega)
                  have q182 : 1 < (t176.length : Int) := of_decide_eq_true (by first | (with_reducible assumption) | assumption)
                  obtain ⟨ad182, e182, hx182_0, hx182_1, hx182_2, hx182_3, hx182_4⟩ := at_T104 (Kd.R_reads' HO178.out).2.2 1 p182 q182
                  (try rw [← Nbq12.out] at hx182_2)
                  obtain rfl : ad180 = ad182 := (by injection e182)
                  (try simp only [show (1 : Int).toNat = 1 from rfl, Nat.reduceMul, Nat.reduceEqDiff, Go.Addr.add, ↓reduceIte] at hx182_0)
                  (try simp only [show (1 : Int).toNat = 1 from rfl, Nat.reduceMul, Nat.reduceEqDiff, Go.Addr.add, ↓reduceIte] at hx182_1)
                  (try simp only [show (1 : Int).toNat = 1 from rfl, Nat.reduceMul, Nat.reduceEqDiff, Go.Addr.add, ↓reduceIte] at hx182_2)
                  (try simp only [show (1 : Int).toNat = 1 from rfl, Nat.reduceMul, Nat.reduceEqDiff, Go.Addr.add, ↓reduceIte] at hx182_3)
                  (try simp only [show (1 : Int).toNat = 1 from rfl, Nat.reduceMul, Nat.reduceEqDiff, Go.Addr.add, ↓reduceIte] at hx182_4)
                  have qi182 : (1 < t176.length) = True := eq_true (by omega)
                  (try rw [show ((1 : Int)).toNat = 1 from rfl] at hx182_0)
                  (try rw [show 1 * 5 = 5 from rfl] at hx182_0)
                  (try rw [show ((1 : Int)).toNat = 1 from rfl] at hx182_1)
                  (try rw [show 1 * 5 = 5 from rfl] at hx182_1)
                  (try rw [show ((1 : Int)).toNat = 1 from rfl] at hx182_2)
                  (try rw [show 1 * 5 = 5 from rfl] at hx182_2)
                  (try rw [show ((1 : Int)).toNat = 1 from rfl] at hx182_3)
                  (try rw [show 1 * 5 = 5 from rfl] at hx182_3)
                  (try rw [show ((1 : Int)).toNat = 1 from rfl] at hx182_4)
                  (try rw [show 1 * 5 = 5 from rfl] at hx182_4)
                  replace p182 := eq_true p182
                  replace q182 := eq_true q182
                  have p183 : 0 ≤ (1 : Int) := (by omega)
                  have q183 : 1 < (t176.length : Int) := of_decide_eq_true (by first | (with_reducible assumption) | assumption)
                  obtain ⟨ad183, e183, hx183_0, hx183_1, hx183_2, hx183_3, hx183_4⟩ := at_T104 (Kd.R_reads' HO178.out).2.2 1 p183 q183
                  (try rw [← Nbq12.out] at hx183_2)
                  obtain rfl : ad180 = ad183 := (by injection e183)
                  (try simp only [show (1 : Int).toNat = 1 from rfl, Nat.reduceMul, Nat.reduceEqDiff, Go.Addr.add, ↓reduceIte] at hx183_0)
                  (try simp only [show (1 : Int).toNat = 1 from rfl, Nat.reduceMul, Nat.reduceEqDiff, Go.Addr.add, ↓reduceIte] at hx183_1)
                  (try simp only [show (1 : Int).toNat = 1 from rfl, Nat.reduceMul, Nat.reduceEqDiff, Go.Addr.add, ↓reduceIte] at hx183_2)
                  (try simp only [show (1 : Int).toNat = 1 from rfl, Nat.reduceMul, Nat.reduceEqDiff, Go.Addr.add, ↓reduceIte] at hx183_3)
                  (try simp only [show (1 : Int).toNat = 1 from rfl, Nat.reduceMul, Nat.reduceEqDiff, Go.Addr.add, ↓reduceIte] at hx183_4)
                  have qi183 : (1 < t176.length) = True := eq_true (by omega)
                  (try rw [show ((1 : Int)).toNat = 1 from rfl] at hx183_0)
                  (try rw [show 1 * 5 = 5 from rfl] at hx183_0)
                  (try rw [show ((1 : Int)).toNat = 1 from rfl] at hx183_1)
                  (try rw [show 1 * 5 = 5 from rfl] at hx183_1)
                  (try rw [show ((1 : Int)).toNat = 1 from rfl] at hx183_2)
                  (try rw [show 1 * 5 = 5 from rfl] at hx183_2)
                  (try rw [show ((1 : Int)).toNat = 1 from rfl] at hx183_3)
                  (try rw [show 1 * 5 = 5 from rfl] at hx183_3)
                  (try rw [show ((1 : Int)).toNat = 1 from rfl] at hx183_4)
                  (try rw [show 1 * 5 = 5 from rfl] at hx183_4)
                  replace p183 := eq_true p183
                  replace q183 := eq_true q183
                  go_wp2
                  go_meet
                  case rel => exact ⟨_, (!((rd_T104 t176 1).f1)), (by first | rfl | (simp; done) | (simp [*]; done)), H', ⟨by first | omega | exact Nat.le_refl _⟩, ⟨by (with_reducible repeat (first | apply Kd.R_alloc | apply Kd.R_drewN | apply Kd.R_drew)); exact HO175.out⟩, ⟨by (with_reducible repeat (first | apply Kd.R_alloc | apply Kd.R_drewN | apply Kd.R_drew)); exact HO178.out⟩, ⟨by repeat (first | (with_reducible first | exact HB.out | apply below_alloc | apply pw_below_drewN | apply below_drew1) | exact HB.out)⟩⟩
              · rw [if_neg c15] at H
                exact absurd H (by simp)
        · rw [if_neg c9] at H
          exact absurd H (by simp)
      · rw [if_neg c8] at H
        have c8b0 : ((t176.length : Int) == 2) = false := beq_eq_false_iff_ne.mpr c8
        have c8b1 : ((t176.length : Int) != 2) = true := bne_iff_ne.mpr c8
        have H' := Aside0.mk H
        clear H
        obtain ⟨Ao19, co19, eo19⟩ := Kd.R_slice HO178.out
        subst eo19
        go_wp2
        go_meet
        case rel => exact ⟨_, (true), (by first | rfl | (simp; done) | (simp [*]; done)), H', ⟨by first | omega | exact Nat.le_refl _⟩, ⟨by (with_reducible repeat (first | apply Kd.R_alloc | apply Kd.R_drewN | apply Kd.R_drew)); exact HO175.out⟩, ⟨by (with_reducible repeat (first | apply Kd.R_alloc | apply Kd.R_drewN | apply Kd.R_drew)); exact HO178.out⟩, ⟨by repeat (first | (with_reducible first | exact HB.out | apply below_alloc | apply pw_below_drewN | apply below_drew1) | exact HB.out)⟩⟩
    · rw [if_neg c7] at H
      have c7b0 : (t179 == 0) = false := beq_eq_false_iff_ne.mpr c7
      have c7b1 : (t179 != 0) = true := bne_iff_ne.mpr c7
      (first | rw [c7b0] | (simp only [i64_w, i32_w]; rw [c7b0]) | skip)
      have H' := Aside0.mk H
      clear H
      go_wp2
      go_meet
      case rel => exact ⟨_, (true), (by first | rfl | (simp; done) | (simp [*]; done)), H', ⟨by first | omega | exact Nat.le_refl _⟩, ⟨by (with_reducible repeat (first | apply Kd.R_alloc | apply Kd.R_drewN | apply Kd.R_drew)); exact HO175.out⟩, ⟨by (with_reducible repeat (first | apply Kd.R_alloc | apply Kd.R_drewN | apply Kd.R_drew)); exact HO178.out⟩, ⟨by repeat (first | (with_reducible first | exact HB.out | apply below_alloc | apply pw_below_drewN | apply below_drew1) | exact HB.out)⟩⟩
  case rest =>
    clear HC3
    try clear c1
    try clear p1
    try clear q1
    try clear hx1
    try clear qi1
    try clear p2
    try clear c3
    try clear c7
    try clear c7b0
    try clear c7b1
    try clear c8
    try clear c8b0
    try clear c8b1
    try clear c9
    try clear c9b0
    try clear c9b1
    try clear c10
    try clear c10b0
    try clear q12
    try clear c13
    try clear c15
    try clear c15b0
    try clear c15b1
    try clear c16
    try clear c16b0
    try clear p18
    try clear q18
    try clear hx18
    try clear qi18
    try clear hx180_0
    try clear hx180_1
    try clear hx180_2
    try clear hx180_3
    try clear hx180_4
    try clear hx181_0
    try clear hx181_1
    try clear hx181_2
    try clear hx181_3
    try clear hx181_4
    try clear hx182_0
    try clear hx182_1
    try clear hx182_2
    try clear hx182_3
    try clear hx182_4
    try clear hx183_0
    try clear hx183_1
    try clear hx183_2
    try clear hx183_3
    try clear hx183_4
    try clear p180
    try clear p181
    try clear p182
    try clear p183
    try clear q180
    try clear q181
    try clear q182
    try clear q183
    obtain ⟨kq, x50_2, rfl, HA, HJ2, HO_1, HO_2, HB⟩ := hcut
    cases kq with
    | zero => exact absurd HA.out (by simp [metrolablaw47_awake.j0])
    | succ kj2 =>
      have H := HA.out
      clear HA
      simp only [metrolablaw47_awake.j0] at H
      by_cases c20 : x50_2 = true
      · subst c20
        have H1 : (some false) = some r := by rw [if_pos rfl] at H; exact H
        clear H
        have H := H1
        clear H1
        obtain rfl := Option.some.inj H
        go_wp2
        go_ret
        exact ⟨by first | rfl | (simp [errW_none, errW_some] <;> rfl) | (simp [*, errW_none, errW_some] <;> rfl), by repeat (first | (with_reducible first | exact HB.out | apply below_alloc | apply pw_below_drewN | apply below_drew1) | exact HB.out)⟩
      · replace c20 := Bool.eq_false_iff.mpr c20
        subst c20
        have H1 : ((gauge_Loss.f kj2 t173 t176).bind fun bt184 => ((gauge_Made.f kj2 t176 true).bind fun bt186 => (if bt184.2 = 0 then (if bt186.2 = 0 then (if bt184.1 = 5 then ((gauge_Safe.f kj2 t173 t176).bind fun t190 => (if t190 = 0 then (metrolablaw47_awake.j1 kj2 t173 bt186.1 ((bt186.1.length : Int) != 2)) else (metrolablaw47_awake.j1 kj2 t173 bt186.1 true))) else (metrolablaw47_awake.j1 kj2 t173 bt186.1 true)) else (metrolablaw47_awake.j1 kj2 t173 bt186.1 true)) else (metrolablaw47_awake.j1 kj2 t173 bt186.1 true)))) = some r := by rw [if_neg (show ¬ (false = true) by decide)] at H; exact H
        clear H
        have H := H1
        clear H1
        replace H := Option.bind_eq_some_iff.mp H
        obtain ⟨⟨t184, t185⟩, A210, H⟩ := H
        replace H : ((gauge_Made.f kj2 t176 true).bind fun bt186 => (if t185 = 0 then (if bt186.2 = 0 then (if t184 = 5 then ((gauge_Safe.f kj2 t173 t176).bind fun t190 => (if t190 = 0 then (metrolablaw47_awake.j1 kj2 t173 bt186.1 ((bt186.1.length : Int) != 2)) else (metrolablaw47_awake.j1 kj2 t173 bt186.1 true))) else (metrolablaw47_awake.j1 kj2 t173 bt186.1 true)) else (metrolablaw47_awake.j1 kj2 t173 bt186.1 true)) else (metrolablaw47_awake.j1 kj2 t173 bt186.1 true))) = some r := H
        have A21 := Aside0.mk A210
        clear A210
        replace H := Option.bind_eq_some_iff.mp H
        obtain ⟨⟨t186, t187⟩, A220, H⟩ := H
        replace H : (if t185 = 0 then (if t187 = 0 then (if t184 = 5 then ((gauge_Safe.f kj2 t173 t176).bind fun t190 => (if t190 = 0 then (metrolablaw47_awake.j1 kj2 t173 t186 ((t186.length : Int) != 2)) else (metrolablaw47_awake.j1 kj2 t173 t186 true))) else (metrolablaw47_awake.j1 kj2 t173 t186 true)) else (metrolablaw47_awake.j1 kj2 t173 t186 true)) else (metrolablaw47_awake.j1 kj2 t173 t186 true)) = some r := H
        have A22 := Aside0.mk A220
        clear A220
        have HC23 := Aside0.mk H
        clear H
        obtain ⟨Ao24, co24, eo24⟩ := Kd.R_slice HO_2.out
        subst eo24
        go_upto_region 7 with (first | ((with_reducible refine gate_callee (f := 32) rfl ?_); refine goesL_ (some 54) rfl rfl Tryd.func32 (by kernel_rfl) rfl #[.slice Ao5 t173.length co5, .slice Ao24 t176.length co24] rfl (by (try simp only [List.map_toArray, List.map_cons, List.map_nil]); first | done | rfl | (simp only [List.length_drop, List.length_take]; rfl)) ?_; (with_reducible refine (gauge_Loss.calls kj2 _ _ t173 _ _ t176 t184 t185 _ ?side1 ?side2 ?side3 ?side4 A21.out (by exact sig_below HS.out (by repeat (first | (with_reducible first | exact HB.out | apply below_alloc | apply pw_below_drewN | apply below_drew1 | fail) | exact HB.out)))).mono ?_); (case side1 => repeat (first | exact (Kd.R_reads' HO_1.out).2.2 | (with_reducible refine Kd.C_alloc ?_ _) | (with_reducible refine Kd.C_drewN ?_ _) | (with_reducible refine Kd.C_drew ?_))); (case side2 => exact (Kd.R_reads' HO_1.out).2.1); (case side3 => repeat (first | exact (Kd.R_reads' HO_2.out).2.2 | (with_reducible refine Kd.C_alloc ?_ _) | (with_reducible refine Kd.C_drewN ?_ _) | (with_reducible refine Kd.C_drew ?_))); (case side4 => exact (Kd.R_reads' HO_2.out).2.1); rintro e w25 ⟨rfl, hb⟩; refine ⟨_, rfl, ?_⟩; have n0_ := Aside0.mk (Kd.R_below (by (with_reducible repeat (first | apply Kd.R_alloc | apply Kd.R_drewN | apply Kd.R_drew)); exact HO_1.out) hb); have n1_ := Aside0.mk (Kd.R_below (by (with_reducible repeat (first | apply Kd.R_alloc | apply Kd.R_drewN | apply Kd.R_drew)); exact HO_2.out) hb); have n2_ := Aside0.mk (below_step (by repeat (first | (with_reducible first | exact HB.out | apply below_alloc | apply pw_below_drewN | apply below_drew1) | exact HB.out)) hb); clear HO_1; clear HO_2; clear HB; have HO_1 := n0_; have HO_2 := n1_; have HB := n2_; clear n0_ n1_ n2_; (try clear hb); (try clear hb2); (try clear hk); (try clear hi)) | ((with_reducible refine gate_callee (f := 34) rfl ?_); refine goesL_ (some 59) rfl rfl Tryd.func34 (by kernel_rfl) rfl #[.slice Ao24 t176.length co24, .bool true] rfl (by (try simp only [List.map_toArray, List.map_cons, List.map_nil]); first | done | rfl | (simp only [List.length_drop, List.length_take]; rfl)) ?_; (with_reducible refine (gauge_Made.calls kj2 _ _ t176 true t186 t187 _ ?side1 ?side2 A22.out (by exact sig_below HS.out (by repeat (first | (with_reducible first | exact HB.out | apply below_alloc | apply pw_below_drewN | apply below_drew1 | fail) | exact HB.out)))).mono ?_); (case side1 => repeat (first | exact (Kd.R_reads' HO_2.out).2.2 | (with_reducible refine Kd.C_alloc ?_ _) | (with_reducible refine Kd.C_drewN ?_ _) | (with_reducible refine Kd.C_drew ?_))); (case side2 => exact (Kd.R_reads' HO_2.out).2.1); rintro e w26 ⟨v188, rfl, ho0, hb⟩; refine ⟨_, rfl, ?_⟩; have n0_ := Aside0.mk (Kd.R_below (by (with_reducible repeat (first | apply Kd.R_alloc | apply Kd.R_drewN | apply Kd.R_drew)); exact HO_1.out) hb); have n1_ := Aside0.mk (Kd.R_below (by (with_reducible repeat (first | apply Kd.R_alloc | apply Kd.R_drewN | apply Kd.R_drew)); exact HO_2.out) hb); have n2_ := Aside0.mk (Kd.R_lower ho0 (below_size (by repeat (first | (with_reducible first | exact HB.out | apply below_alloc | apply pw_below_drewN | apply below_drew1) | exact HB.out)))); have n3_ := Aside0.mk (below_step (by repeat (first | (with_reducible first | exact HB.out | apply below_alloc | apply pw_below_drewN | apply below_drew1) | exact HB.out)) hb); clear HO_1; clear HO_2; clear HB; have HO_1 := n0_; have HO_2 := n1_; have HO189 := n2_; have HB := n3_; clear n0_ n1_ n2_ n3_; (try clear hb); (try clear hb2); (try clear hk); (try clear hi); (try clear ho0)))
        (try simp only [Act.put, List.setIfInBounds_toArray, List.set_cons_zero, List.set_cons_succ])
        go_cut [82] (fun v82 wc => ∃ (kq : Nat) (x82_22 : Bool), v82 = .bool x82_22 ∧ Aside0 (metrolablaw47_awake.j1 kq t173 t186 x82_22 = some r) ∧ Aside0 (kq ≤ kj2) ∧ Aside0 (Kd.R k27 27 wc w.heap.size (fun _ => True) (.slice Ao5 t173.length co5) t173) ∧ Aside0 (Kd.R k56 56 wc w.heap.size (fun _ => True) v188 t186) ∧ Aside0 (Below w.heap.size w wc))
        case first =>
          have H := HC23.out
          clear HC23
          by_cases c27 : t185 = 0
          · rw [if_pos c27] at H
            have c27b0 : (t185 == 0) = true := beq_iff_eq.mpr c27
            have c27b1 : (t185 != 0) = false := bne_eq_false_iff_eq.mpr c27
            clear c27
            (first | rw [c27b0] | (simp only [i64_w, i32_w]; rw [c27b0]) | skip)
            by_cases c28 : t187 = 0
            · rw [if_pos c28] at H
              have c28b0 : (t187 == 0) = true := beq_iff_eq.mpr c28
              have c28b1 : (t187 != 0) = false := bne_eq_false_iff_eq.mpr c28
              clear c28
              by_cases c29 : t184 = 5
              · rw [if_pos c29] at H
                have c29b0 : (t184 == 5) = true := beq_iff_eq.mpr c29
                have c29b1 : (t184 != 5) = false := bne_eq_false_iff_eq.mpr c29
                clear c29
                replace H := Option.bind_eq_some_iff.mp H
                obtain ⟨t190, A300, H⟩ := H
                replace H : (if t190 = 0 then (metrolablaw47_awake.j1 kj2 t173 t186 ((t186.length : Int) != 2)) else (metrolablaw47_awake.j1 kj2 t173 t186 true)) = some r := H
                have A30 := Aside0.mk A300
                clear A300
                by_cases c31 : t190 = 0
                · rw [if_pos c31] at H
                  have c31b0 : (t190 == 0) = true := beq_iff_eq.mpr c31
                  have c31b1 : (t190 != 0) = false := bne_eq_false_iff_eq.mpr c31
                  clear c31
                  have H' := Aside0.mk H
                  clear H
                  go_wp2_with (first | (go_at_call 33; (with_reducible refine (gauge_Safe.calls kj2 _ _ t173 _ _ t176 t190 _ ?side1 ?side2 ?side3 ?side4 A30.out (by exact sig_below HS.out (by repeat (first | (with_reducible first | exact HB.out | apply below_alloc | apply pw_below_drewN | apply below_drew1 | fail) | exact HB.out)))).mono ?_); (case side1 => repeat (first | exact (Kd.R_reads' HO_1.out).2.2 | (with_reducible refine Kd.C_alloc ?_ _) | (with_reducible refine Kd.C_drewN ?_ _) | (with_reducible refine Kd.C_drew ?_))); (case side2 => exact (Kd.R_reads' HO_1.out).2.1); (case side3 => repeat (first | exact (Kd.R_reads' HO_2.out).2.2 | (with_reducible refine Kd.C_alloc ?_ _) | (with_reducible refine Kd.C_drewN ?_ _) | (with_reducible refine Kd.C_drew ?_))); (case side4 => exact (Kd.R_reads' HO_2.out).2.1); rintro e w32 ⟨rfl, hb⟩; have n0_ := Aside0.mk (Kd.R_below (by (with_reducible repeat (first | apply Kd.R_alloc | apply Kd.R_drewN | apply Kd.R_drew)); exact HO_1.out) hb); have n1_ := Aside0.mk (Kd.R_below (by (with_reducible repeat (first | apply Kd.R_alloc | apply Kd.R_drewN | apply Kd.R_drew)); exact HO_2.out) hb); have n2_ := Aside0.mk (Kd.R_below (by (with_reducible repeat (first | apply Kd.R_alloc | apply Kd.R_drewN | apply Kd.R_drew)); exact HO189.out) hb); have n3_ := Aside0.mk (below_step (by repeat (first | (with_reducible first | exact HB.out | apply below_alloc | apply pw_below_drewN | apply below_drew1) | exact HB.out)) hb); clear HO_1; clear HO_2; clear HO189; clear HB; have HO_1 := n0_; have HO_2 := n1_; have HO189 := n2_; have HB := n3_; clear n0_ n1_ n2_ n3_; (try clear hb); (try clear hb2); (try clear hk); (try clear hi); obtain ⟨Ao33, co33, eo33⟩ := Kd.R_slice HO189.out; subst eo33))
                  go_meet
                  case rel => exact ⟨_, (((t186.length : Int) != 2)), (by first | rfl | (simp; done) | (simp [*]; done)), H', ⟨by have := HJ2.out; first | omega | exact Nat.le_refl _⟩, ⟨by (with_reducible repeat (first | apply Kd.R_alloc | apply Kd.R_drewN | apply Kd.R_drew)); exact HO_1.out⟩, ⟨by (with_reducible repeat (first | apply Kd.R_alloc | apply Kd.R_drewN | apply Kd.R_drew)); exact HO189.out⟩, ⟨by repeat (first | (with_reducible first | exact HB.out | apply below_alloc | apply pw_below_drewN | apply below_drew1) | exact HB.out)⟩⟩
                · rw [if_neg c31] at H
                  have c31b0 : (t190 == 0) = false := beq_eq_false_iff_ne.mpr c31
                  have c31b1 : (t190 != 0) = true := bne_iff_ne.mpr c31
                  have H' := Aside0.mk H
                  clear H
                  go_wp2_with (first | (go_at_call 33; (with_reducible refine (gauge_Safe.calls kj2 _ _ t173 _ _ t176 t190 _ ?side1 ?side2 ?side3 ?side4 A30.out (by exact sig_below HS.out (by repeat (first | (with_reducible first | exact HB.out | apply below_alloc | apply pw_below_drewN | apply below_drew1 | fail) | exact HB.out)))).mono ?_); (case side1 => repeat (first | exact (Kd.R_reads' HO_1.out).2.2 | (with_reducible refine Kd.C_alloc ?_ _) | (with_reducible refine Kd.C_drewN ?_ _) | (with_reducible refine Kd.C_drew ?_))); (case side2 => exact (Kd.R_reads' HO_1.out).2.1); (case side3 => repeat (first | exact (Kd.R_reads' HO_2.out).2.2 | (with_reducible refine Kd.C_alloc ?_ _) | (with_reducible refine Kd.C_drewN ?_ _) | (with_reducible refine Kd.C_drew ?_))); (case side4 => exact (Kd.R_reads' HO_2.out).2.1); rintro e w34 ⟨rfl, hb⟩; have n0_ := Aside0.mk (Kd.R_below (by (with_reducible repeat (first | apply Kd.R_alloc | apply Kd.R_drewN | apply Kd.R_drew)); exact HO_1.out) hb); have n1_ := Aside0.mk (Kd.R_below (by (with_reducible repeat (first | apply Kd.R_alloc | apply Kd.R_drewN | apply Kd.R_drew)); exact HO_2.out) hb); have n2_ := Aside0.mk (Kd.R_below (by (with_reducible repeat (first | apply Kd.R_alloc | apply Kd.R_drewN | apply Kd.R_drew)); exact HO189.out) hb); have n3_ := Aside0.mk (below_step (by repeat (first | (with_reducible first | exact HB.out | apply below_alloc | apply pw_below_drewN | apply below_drew1) | exact HB.out)) hb); clear HO_1; clear HO_2; clear HO189; clear HB; have HO_1 := n0_; have HO_2 := n1_; have HO189 := n2_; have HB := n3_; clear n0_ n1_ n2_ n3_; (try clear hb); (try clear hb2); (try clear hk); (try clear hi)))
                  go_meet
                  case rel => exact ⟨_, (true), (by first | rfl | (simp; done) | (simp [*]; done)), H', ⟨by have := HJ2.out; first | omega | exact Nat.le_refl _⟩, ⟨by (with_reducible repeat (first | apply Kd.R_alloc | apply Kd.R_drewN | apply Kd.R_drew)); exact HO_1.out⟩, ⟨by (with_reducible repeat (first | apply Kd.R_alloc | apply Kd.R_drewN | apply Kd.R_drew)); exact HO189.out⟩, ⟨by repeat (first | (with_reducible first | exact HB.out | apply below_alloc | apply pw_below_drewN | apply below_drew1) | exact HB.out)⟩⟩
              · rw [if_neg c29] at H
                have c29b0 : (t184 == 5) = false := beq_eq_false_iff_ne.mpr c29
                have c29b1 : (t184 != 5) = true := bne_iff_ne.mpr c29
                have H' := Aside0.mk H
                clear H
                go_wp2
                go_meet
                case rel => exact ⟨_, (true), (by first | rfl | (simp; done) | (simp [*]; done)), H', ⟨by have := HJ2.out; first | omega | exact Nat.le_refl _⟩, ⟨by (with_reducible repeat (first | apply Kd.R_alloc | apply Kd.R_drewN | apply Kd.R_drew)); exact HO_1.out⟩, ⟨by (with_reducible repeat (first | apply Kd.R_alloc | apply Kd.R_drewN | apply Kd.R_drew)); exact HO189.out⟩, ⟨by repeat (first | (with_reducible first | exact HB.out | apply below_alloc | apply pw_below_drewN | apply below_drew1) | exact HB.out)⟩⟩
            · rw [if_neg c28] at H
              have c28b0 : (t187 == 0) = false := beq_eq_false_iff_ne.mpr c28
              have c28b1 : (t187 != 0) = true := bne_iff_ne.mpr c28
              have H' := Aside0.mk H
              clear H
              go_wp2
              go_meet
              case rel => exact ⟨_, (true), (by first | rfl | (simp; done) | (simp [*]; done)), H', ⟨by have := HJ2.out; first | omega | exact Nat.le_refl _⟩, ⟨by (with_reducible repeat (first | apply Kd.R_alloc | apply Kd.R_drewN | apply Kd.R_drew)); exact HO_1.out⟩, ⟨by (with_reducible repeat (first | apply Kd.R_alloc | apply Kd.R_drewN | apply Kd.R_drew)); exact HO189.out⟩, ⟨by repeat (first | (with_reducible first | exact HB.out | apply below_alloc | apply pw_below_drewN | apply below_drew1) | exact HB.out)⟩⟩
          · rw [if_neg c27] at H
            have c27b0 : (t185 == 0) = false := beq_eq_false_iff_ne.mpr c27
            have c27b1 : (t185 != 0) = true := bne_iff_ne.mpr c27
            (first | rw [c27b0] | (simp only [i64_w, i32_w]; rw [c27b0]) | skip)
            have H' := Aside0.mk H
            clear H
            go_wp2
            go_meet
            case rel => exact ⟨_, (true), (by first | rfl | (simp; done) | (simp [*]; done)), H', ⟨by have := HJ2.out; first | omega | exact Nat.le_refl _⟩, ⟨by (with_reducible repeat (first | apply Kd.R_alloc | apply Kd.R_drewN | apply Kd.R_drew)); exact HO_1.out⟩, ⟨by (with_reducible repeat (first | apply Kd.R_alloc | apply Kd.R_drewN | apply Kd.R_drew)); exact HO189.out⟩, ⟨by repeat (first | (with_reducible first | exact HB.out | apply below_alloc | apply pw_below_drewN | apply below_drew1) | exact HB.out)⟩⟩
        case rest =>
          clear HC23
          try clear c1
          try clear p1
          try clear q1
          try clear hx1
          try clear qi1
          try clear c2
          try clear p2
          try clear c3
          try clear c7
          try clear c7b0
          try clear c7b1
          try clear c8
          try clear c8b0
          try clear c8b1
          try clear c9
          try clear c9b0
          try clear c9b1
          try clear c10
          try clear c10b0
          try clear q12
          try clear c13
          try clear c15
          try clear c15b0
          try clear c15b1
          try clear c16
          try clear c16b0
          try clear p18
          try clear q18
          try clear hx18
          try clear qi18
          try clear c20
          try clear c27
          try clear c27b0
          try clear c27b1
          try clear c28
          try clear c28b0
          try clear c28b1
          try clear c29
          try clear c29b0
          try clear c29b1
          try clear c30
          try clear c31
          try clear c31b0
          try clear c31b1
          try clear c32
          try clear c34
          try clear hx180_0
          try clear hx180_1
          try clear hx180_2
          try clear hx180_3
          try clear hx180_4
          try clear hx181_0
          try clear hx181_1
          try clear hx181_2
          try clear hx181_3
          try clear hx181_4
          try clear hx182_0
          try clear hx182_1
          try clear hx182_2
          try clear hx182_3
          try clear hx182_4
          try clear hx183_0
          try clear hx183_1
          try clear hx183_2
          try clear hx183_3
          try clear hx183_4
          try clear p1
          try clear p18
          try clear p180
          try clear p181
          try clear p182
          try clear p183
          try clear p2
          try clear q1
          try clear q12
          try clear q18
          try clear q180
          try clear q181
          try clear q182
          try clear q183
          obtain ⟨kq, x82_22, rfl, HA, HJ22, HO_1, HO_5, HB⟩ := hcut
          cases kq with
          | zero => exact absurd HA.out (by simp [metrolablaw47_awake.j1])
          | succ kj22 =>
            have H := HA.out
            clear HA
            simp only [metrolablaw47_awake.j1] at H
            by_cases c35 : x82_22 = true
            · subst c35
              have H1 : (some false) = some r := by rw [if_pos rfl] at H; exact H
              clear H
              have H := H1
              clear H1
              obtain rfl := Option.some.inj H
              go_wp2
              go_ret
              exact ⟨by first | rfl | (simp [errW_none, errW_some] <;> rfl) | (simp [*, errW_none, errW_some] <;> rfl), by repeat (first | (with_reducible first | exact HB.out | apply below_alloc | apply pw_below_drewN | apply below_drew1) | exact HB.out)⟩
            · replace c35 := Bool.eq_false_iff.mpr c35
              subst c35
              have H1 : (if 0 < (t186.length : Int) then ((some (t186.set (0 : Int).toNat (⟨(⟨(rd_T56 t186 0).f0.f0, (rd_T56 t186 0).f0.f1⟩ : S23), (rd_T56 t186 0).f1, 91⟩ : S56) : List (S56))).bind fun y191 => (if 1 < (t186.length : Int) then ((gauge_Worn.f kj22 t173 (y191.set (1 : Int).toNat (⟨(⟨(rd_T56 y191 1).f0.f0, (rd_T56 y191 1).f0.f1⟩ : S23), (rd_T56 y191 1).f1, 64⟩ : S56))).bind fun bt193 => (if bt193.2 = 0 then ((slices_Equal_int_int.f kj22 bt193.1 (([0] : List Int))).bind fun t200 => (some t200)) else (some false))) else (none))) else (none)) = some r := by rw [if_neg (show ¬ (false = true) by decide)] at H; exact H
              clear H
              have H := H1
              clear H1
              by_cases c36 : 0 < (t186.length : Int)
              · rw [if_pos c36] at H
                have c36b0 : decide (0 < (t186.length : Int)) = true := decide_eq_true c36
                have c36b1 : decide (0 < t186.length) = true := decide_eq_true (by omega)
                clear c36
                obtain ⟨y191, hy191⟩ : ∃ y_ : List (S56), y_ = (t186.set (0 : Int).toNat (⟨(⟨(rd_T56 t186 0).f0.f0, (rd_T56 t186 0).f0.f1⟩ : S23), (rd_T56 t186 0).f1, 91⟩ : S56)) := ⟨_, rfl⟩
                replace H : (if 1 < (t186.length : Int) then ((gauge_Worn.f kj22 t173 (y191.set (1 : Int).toNat (⟨(⟨(rd_T56 y191 1).f0.f0, (rd_T56 y191 1).f0.f1⟩ : S23), (rd_T56 y191 1).f1, 64⟩ : S56))).bind fun bt193 => (if bt193.2 = 0 then ((slices_Equal_int_int.f kj22 bt193.1 (([0] : List Int))).bind fun t200 => (some t200)) else (some false))) else (none)) = some r := by first | (rw [hy191]; with_reducible exact H) | (have H2_ := (Option.bind_some _ _).symm.trans H; rw [hy191]; with_reducible exact H2_) | (have H2_ := (Option.bind_some _ _).symm.trans H; with_reducible exact H2_) | with_reducible exact H | (rw [hy191]; exact H) | exact H
                have Ny191 := Aside0.mk hy191
                clear hy191
                by_cases c38 : 1 < (t186.length : Int)
                · rw [if_pos c38] at H
                  have c38b0 : decide (1 < (t186.length : Int)) = true := decide_eq_true c38
                  have c38b1 : decide (1 < t186.length) = true := decide_eq_true (by omega)
                  clear c38
                  obtain ⟨y192, hy192⟩ : ∃ y_ : List (S56), y_ = (y191.set (1 : Int).toNat (⟨(⟨(rd_T56 y191 1).f0.f0, (rd_T56 y191 1).f0.f1⟩ : S23), (rd_T56 y191 1).f1, 64⟩ : S56)) := ⟨_, rfl⟩
                  replace H : ((gauge_Worn.f kj22 t173 y192).bind fun bt193 => (if bt193.2 = 0 then ((slices_Equal_int_int.f kj22 bt193.1 (([0] : List Int))).bind fun t200 => (some t200)) else (some false))) = some r := by first | (rw [hy192]; with_reducible exact H) | (have H2_ := (Option.bind_some _ _).symm.trans H; rw [hy192]; with_reducible exact H2_) | (have H2_ := (Option.bind_some _ _).symm.trans H; with_reducible exact H2_) | with_reducible exact H | (rw [hy192]; exact H) | exact H
                  have Ny192 := Aside0.mk hy192
                  clear hy192
                  replace H := Option.bind_eq_some_iff.mp H
                  obtain ⟨⟨t193, t194⟩, A400, H⟩ := H
                  replace H : (if t194 = 0 then ((slices_Equal_int_int.f kj22 t193 (([0] : List Int))).bind fun t200 => (some t200)) else (some false)) = some r := H
                  have A40 := Aside0.mk A400
                  clear A400
                  by_cases c41 : t194 = 0
                  · rw [if_pos c41] at H
                    have c41b0 : (t194 == 0) = true := beq_iff_eq.mpr c41
                    have c41b1 : (t194 != 0) = false := bne_eq_false_iff_eq.mpr c41
                    clear c41
                    obtain ⟨y197, hy197⟩ : ∃ y_ : List Int, y_ = (([0] : List Int)) := ⟨_, rfl⟩
                    replace H : ((slices_Equal_int_int.f kj22 t193 y197).bind fun t200 => (some t200)) = some r := by first | (rw [hy197]; with_reducible exact H) | (have H2_ := (Option.bind_some _ _).symm.trans H; rw [hy197]; with_reducible exact H2_) | (have H2_ := (Option.bind_some _ _).symm.trans H; with_reducible exact H2_) | with_reducible exact H | (rw [hy197]; exact H) | exact H
                    have Ny197 := Aside0.mk hy197
                    clear hy197
                    replace H := Option.bind_eq_some_iff.mp H
                    obtain ⟨t200, A420, H⟩ := H
                    replace H : (some t200) = some r := H
                    have A42 := Aside0.mk A420
                    clear A420
                    obtain rfl := Option.some.inj H
                    have p37 : 0 ≤ (0 : Int) := (by omega)
                    have q37 : (0 : Int) < ((t186.length : Int) : Int) := of_decide_eq_true (by first | (with_reducible assumption) | assumption)
                    have qi37 : (0 < t186.length) = True := eq_true (by omega)
                    obtain ⟨go37, co37, eo37, gb37, gl37, cl37, HG37⟩ := Kd.R_form HO_5.out (by omega)
                    (first | cases eo37 | (injection eo37 with ea_ en_ ec_; (first | subst ea_ | (injection ea_ with ea_; subst ea_)); subst ec_; clear en_))
                    have GB37 := Aside0.mk gb37
                    have GG37 := Aside0.mk HG37
                    clear gb37 gl37 HG37
                    obtain ⟨ce37, hcl37, hM37, hcc37, hfr37⟩ := Kd.R_elem HO_5.out z56 (0 : Int) p37 q37
                    obtain rfl := k56_openM hM37
                    have hx37_0 : wc.cell? ⟨go37, (0 : Int).toNat * 4, none⟩ = some (.int .i64 ((rd_T56 t186 0).f0.f0)) := hcc37 0 _ rfl
                    have hx37_1 : wc.cell? ⟨go37, (0 : Int).toNat * 4 + 1, none⟩ = some (.int .i64 ((rd_T56 t186 0).f0.f1)) := hcc37 1 _ rfl
                    have hx37_2 : wc.cell? ⟨go37, (0 : Int).toNat * 4 + 2, none⟩ = some (.bool ((rd_T56 t186 0).f1)) := hcc37 2 _ rfl
                    have hx37_3 : wc.cell? ⟨go37, (0 : Int).toNat * 4 + 3, none⟩ = some (.int .i64 ((rd_T56 t186 0).f2)) := hcc37 3 _ rfl
                    have hf37_0 : wc.frozen? ⟨go37, (0 : Int).toNat * 4, none⟩ = false := hfr37 0
                    have hf37_1 : wc.frozen? ⟨go37, (0 : Int).toNat * 4 + 1, none⟩ = false := hfr37 1
                    have hf37_2 : wc.frozen? ⟨go37, (0 : Int).toNat * 4 + 2, none⟩ = false := hfr37 2
                    have hf37_3 : wc.frozen? ⟨go37, (0 : Int).toNat * 4 + 3, none⟩ = false := hfr37 3
                    clear hcl37 hcc37 hfr37 hM37
                    (try rw [show ((0 : Int)).toNat = 0 from rfl] at hx37_0)
                    (try simp only [Nat.reduceMul, Nat.zero_mul, Nat.zero_add, Nat.reduceAdd] at hx37_0)
                    (try rw [show ((0 : Int)).toNat = 0 from rfl] at hf37_0)
                    (try simp only [Nat.reduceMul, Nat.zero_mul, Nat.zero_add, Nat.reduceAdd] at hf37_0)
                    (try rw [show ((0 : Int)).toNat = 0 from rfl] at hx37_1)
                    (try simp only [Nat.reduceMul, Nat.zero_mul, Nat.zero_add, Nat.reduceAdd] at hx37_1)
                    (try rw [show ((0 : Int)).toNat = 0 from rfl] at hf37_1)
                    (try simp only [Nat.reduceMul, Nat.zero_mul, Nat.zero_add, Nat.reduceAdd] at hf37_1)
                    (try rw [show ((0 : Int)).toNat = 0 from rfl] at hx37_2)
                    (try simp only [Nat.reduceMul, Nat.zero_mul, Nat.zero_add, Nat.reduceAdd] at hx37_2)
                    (try rw [show ((0 : Int)).toNat = 0 from rfl] at hf37_2)
                    (try simp only [Nat.reduceMul, Nat.zero_mul, Nat.zero_add, Nat.reduceAdd] at hf37_2)
                    (try rw [show ((0 : Int)).toNat = 0 from rfl] at hx37_3)
                    (try simp only [Nat.reduceMul, Nat.zero_mul, Nat.zero_add, Nat.reduceAdd] at hx37_3)
                    (try rw [show ((0 : Int)).toNat = 0 from rfl] at hf37_3)
                    (try simp only [Nat.reduceMul, Nat.zero_mul, Nat.zero_add, Nat.reduceAdd] at hf37_3)
                    replace p37 := eq_true p37
                    replace q37 := eq_true q37
                    have HX43 := Aside0.mk (show Kd.R k56 56 wc w.heap.size (fun _ => True) (.slice (some ⟨go37, 0, none⟩) t186.length co37) t186 from (by (with_reducible repeat (first | apply Kd.R_alloc | apply Kd.R_drewN | apply Kd.R_drew)); exact HO_5.out))
                    obtain ⟨ce43, hcl43, hM43, hcc43, hfr43⟩ := Kd.R_elem HX43.out z56 (0 : Int) (by omega) (by have h_ : (0 : Int) < ((t186.length : Int) : Int) := of_decide_eq_true (by first | (with_reducible assumption) | assumption); first | exact h_ | (have e_ := (Kd.R_reads' HO_5.out).1; omega) | simpa using h_)
                    obtain rfl := k56_openM hM43
                    have HP43 := Kd.R_seg HX43.out (0 : Int) (by omega) (by have h_ : (0 : Int) < ((t186.length : Int) : Int) := of_decide_eq_true (by first | (with_reducible assumption) | assumption); first | exact h_ | (have e_ := (Kd.R_reads' HO_5.out).1; omega) | simpa using h_) (seg := [.int .i64 91]) (j := 3) hcl43 hcc43 (show 4 ≤ 4 from by decide) (x' := (⟨(⟨(rd_T56 t186 0).f0.f0, (rd_T56 t186 0).f0.f1⟩ : S23), (rd_T56 t186 0).f1, 91⟩ : S56)) (k56_mkM _ _ _ (⟨(⟨(rd_T56 t186 0).f0.f0, (rd_T56 t186 0).f0.f1⟩ : S23), (rd_T56 t186 0).f1, 91⟩ : S56) ) (fun _ hk => hk)
                    have hx43_3 := hcc43 3 _ rfl
                    (try simp only [show (k56).sz = 4 from rfl, Nat.mul_one, Nat.add_zero] at hx43_3)
                    (try rw [show ((0 : Int)).toNat = 0 from rfl] at hx43_3)
                    (try simp only [Nat.reduceMul, Nat.zero_mul, Nat.zero_add, Nat.reduceAdd] at hx43_3)
                    have hf43_3 := hfr43 3
                    (try simp only [show (k56).sz = 4 from rfl, Nat.mul_one, Nat.add_zero] at hf43_3)
                    (try rw [show ((0 : Int)).toNat = 0 from rfl] at hf43_3)
                    (try simp only [Nat.reduceMul, Nat.zero_mul, Nat.zero_add, Nat.reduceAdd] at hf43_3)
                    clear hcl43 hcc43 hfr43 hM43
                    go_wp2_with (first | ((with_reducible refine gate_store (t := 3) (p := 86) rfl ?_); refine store_event (t := 3) (p := 86) (v := ?vo_w44) (w1 := (wc.setCell ⟨go37, 3, none⟩ (.int .i64 91))) ?hg ?ho ?hn ?hr ?_; (case ho => rfl); (case hg => rfl); (case hn => rfl); (case hr => first | (go_simp; done) | (go_simp; rfl)); intro w44 hw; have hg : wc.grownBy w44 (some go37) := (by rw [hw]; exact HP43.2); have hp_ : Kd.R k56 56 w44 w.heap.size (fun _ => True) (.slice (some ⟨go37, 0, none⟩) t186.length co37) y191 := (by rw [hw, Ny191.out]; exact HP43.1); clear HP43; have n0_ := Aside0.mk (Kd.R_over' (v := (.slice (some ⟨go37, 0, none⟩) t186.length co37)) (by (with_reducible repeat (first | apply Kd.R_alloc | apply Kd.R_drewN | apply Kd.R_drew)); exact HO_1.out) (Kd.R_typed HO_5.out) (by decide) hg); have n1_ := Aside0.mk (hp_); have n2_ := Aside0.mk ((by rw [hw]; exact below_set (HB.out) GB37.out : Below w.heap.size w w44)); clear HO_1; clear HO_5; clear HB; have HO_1 := n0_; have HO_5 := n1_; have HB := n2_; clear n0_ n1_ n2_; clear hg hw hp_; have p39 : 0 ≤ (1 : Int) := (by omega); have q39 : (1 : Int) < ((t186.length : Int) : Int) := of_decide_eq_true (by first | (with_reducible assumption) | assumption); have qi39 : (1 < t186.length) = True := eq_true (by omega); obtain ⟨ce39, hcl39, hM39, hcc39, hfr39⟩ := Kd.R_elem HO_5.out z56 (1 : Int) p39 q39; obtain rfl := k56_openM hM39; have hx39_0 : w44.cell? ⟨go37, (1 : Int).toNat * 4, none⟩ = some (.int .i64 ((rd_T56 y191 1).f0.f0)) := hcc39 0 _ rfl; have hx39_1 : w44.cell? ⟨go37, (1 : Int).toNat * 4 + 1, none⟩ = some (.int .i64 ((rd_T56 y191 1).f0.f1)) := hcc39 1 _ rfl; have hx39_2 : w44.cell? ⟨go37, (1 : Int).toNat * 4 + 2, none⟩ = some (.bool ((rd_T56 y191 1).f1)) := hcc39 2 _ rfl; have hx39_3 : w44.cell? ⟨go37, (1 : Int).toNat * 4 + 3, none⟩ = some (.int .i64 ((rd_T56 y191 1).f2)) := hcc39 3 _ rfl; have hf39_0 : w44.frozen? ⟨go37, (1 : Int).toNat * 4, none⟩ = false := hfr39 0; have hf39_1 : w44.frozen? ⟨go37, (1 : Int).toNat * 4 + 1, none⟩ = false := hfr39 1; have hf39_2 : w44.frozen? ⟨go37, (1 : Int).toNat * 4 + 2, none⟩ = false := hfr39 2; have hf39_3 : w44.frozen? ⟨go37, (1 : Int).toNat * 4 + 3, none⟩ = false := hfr39 3; clear hcl39 hcc39 hfr39 hM39; (try rw [show ((1 : Int)).toNat = 1 from rfl] at hx39_0); (try simp only [Nat.reduceMul, Nat.zero_mul, Nat.zero_add, Nat.reduceAdd] at hx39_0); (try rw [show ((1 : Int)).toNat = 1 from rfl] at hf39_0); (try simp only [Nat.reduceMul, Nat.zero_mul, Nat.zero_add, Nat.reduceAdd] at hf39_0); (try rw [show ((1 : Int)).toNat = 1 from rfl] at hx39_1); (try simp only [Nat.reduceMul, Nat.zero_mul, Nat.zero_add, Nat.reduceAdd] at hx39_1); (try rw [show ((1 : Int)).toNat = 1 from rfl] at hf39_1); (try simp only [Nat.reduceMul, Nat.zero_mul, Nat.zero_add, Nat.reduceAdd] at hf39_1); (try rw [show ((1 : Int)).toNat = 1 from rfl] at hx39_2); (try simp only [Nat.reduceMul, Nat.zero_mul, Nat.zero_add, Nat.reduceAdd] at hx39_2); (try rw [show ((1 : Int)).toNat = 1 from rfl] at hf39_2); (try simp only [Nat.reduceMul, Nat.zero_mul, Nat.zero_add, Nat.reduceAdd] at hf39_2); (try rw [show ((1 : Int)).toNat = 1 from rfl] at hx39_3); (try simp only [Nat.reduceMul, Nat.zero_mul, Nat.zero_add, Nat.reduceAdd] at hx39_3); (try rw [show ((1 : Int)).toNat = 1 from rfl] at hf39_3); (try simp only [Nat.reduceMul, Nat.zero_mul, Nat.zero_add, Nat.reduceAdd] at hf39_3); replace p39 := eq_true p39; replace q39 := eq_true q39; have HX45 := Aside0.mk (show Kd.R k56 56 w44 w.heap.size (fun _ => True) (.slice (some ⟨go37, 0, none⟩) t186.length co37) y191 from (by (with_reducible repeat (first | apply Kd.R_alloc | apply Kd.R_drewN | apply Kd.R_drew)); exact HO_5.out)); obtain ⟨ce45, hcl45, hM45, hcc45, hfr45⟩ := Kd.R_elem HX45.out z56 (1 : Int) (by omega) (by have h_ : (1 : Int) < ((t186.length : Int) : Int) := of_decide_eq_true (by first | (with_reducible assumption) | assumption); first | exact h_ | (have e_ := (Kd.R_reads' HO_5.out).1; omega) | simpa using h_); obtain rfl := k56_openM hM45; have HP45 := Kd.R_seg HX45.out (1 : Int) (by omega) (by have h_ : (1 : Int) < ((t186.length : Int) : Int) := of_decide_eq_true (by first | (with_reducible assumption) | assumption); first | exact h_ | (have e_ := (Kd.R_reads' HO_5.out).1; omega) | simpa using h_) (seg := [.int .i64 64]) (j := 3) hcl45 hcc45 (show 4 ≤ 4 from by decide) (x' := (⟨(⟨(rd_T56 y191 1).f0.f0, (rd_T56 y191 1).f0.f1⟩ : S23), (rd_T56 y191 1).f1, 64⟩ : S56)) (k56_mkM _ _ _ (⟨(⟨(rd_T56 y191 1).f0.f0, (rd_T56 y191 1).f0.f1⟩ : S23), (rd_T56 y191 1).f1, 64⟩ : S56) ) (fun _ hk => hk); have hx45_3 := hcc45 3 _ rfl; (try simp only [show (k56).sz = 4 from rfl, Nat.mul_one, Nat.add_zero] at hx45_3); (try rw [show ((1 : Int)).toNat = 1 from rfl] at hx45_3); (try simp only [Nat.reduceMul, Nat.zero_mul, Nat.zero_add, Nat.reduceAdd] at hx45_3); have hf45_3 := hfr45 3; (try simp only [show (k56).sz = 4 from rfl, Nat.mul_one, Nat.add_zero] at hf45_3); (try rw [show ((1 : Int)).toNat = 1 from rfl] at hf45_3); (try simp only [Nat.reduceMul, Nat.zero_mul, Nat.zero_add, Nat.reduceAdd] at hf45_3); clear hcl45 hcc45 hfr45 hM45) | ((with_reducible refine gate_store (t := 3) (p := 88) rfl ?_); refine store_event (t := 3) (p := 88) (v := ?vo_w46) (w1 := (w44.setCell ⟨go37, 7, none⟩ (.int .i64 64))) ?hg ?ho ?hn ?hr ?_; (case ho => rfl); (case hg => rfl); (case hn => rfl); (case hr => first | (go_simp; done) | (go_simp; rfl)); intro w46 hw; have hg : w44.grownBy w46 (some go37) := (by rw [hw]; exact HP45.2); have hp_ : Kd.R k56 56 w46 w.heap.size (fun _ => True) (.slice (some ⟨go37, 0, none⟩) t186.length co37) y192 := (by rw [hw, Ny192.out]; exact HP45.1); clear HP45; have n0_ := Aside0.mk (Kd.R_over' (v := (.slice (some ⟨go37, 0, none⟩) t186.length co37)) (by (with_reducible repeat (first | apply Kd.R_alloc | apply Kd.R_drewN | apply Kd.R_drew)); exact HO_1.out) (Kd.R_typed HO_5.out) (by decide) hg); have n1_ := Aside0.mk (hp_); have n2_ := Aside0.mk ((by rw [hw]; exact below_set (HB.out) GB37.out : Below w.heap.size w w46)); clear HO_1; clear HO_5; clear HB; have HO_1 := n0_; have HO_5 := n1_; have HB := n2_; clear n0_ n1_ n2_; clear hg hw hp_) | ((with_reducible refine gate_callee (f := 36) rfl ?_); refine goesL_ (some 92) rfl rfl Tryd.func36 (by kernel_rfl) rfl #[.slice Ao5 t173.length co5, .slice (some ⟨go37, 0, none⟩) y192.length co37] rfl (by (try simp only [List.map_toArray, List.map_cons, List.map_nil]); first | done | (rw [show y192.length = t186.length from (Kd.R_reads' HO_5.out).1.symm] <;> rfl) | rfl | (simp only [List.length_drop, List.length_take]; rfl)) ?_; (with_reducible refine (gauge_Worn.calls kj22 _ _ t173 _ _ y192 t193 t194 _ ?side1 ?side2 ?side3 ?side4 A40.out (by exact sig_below HS.out (by repeat (first | (with_reducible first | exact HB.out | apply below_alloc | apply pw_below_drewN | apply below_drew1 | fail) | exact HB.out)))).mono ?_); (case side1 => repeat (first | exact (Kd.R_reads' HO_1.out).2.2 | (with_reducible refine Kd.C_alloc ?_ _) | (with_reducible refine Kd.C_drewN ?_ _) | (with_reducible refine Kd.C_drew ?_))); (case side2 => exact (Kd.R_reads' HO_1.out).2.1); (case side3 => repeat (first | exact (Kd.R_reads' HO_5.out).2.2 | (with_reducible refine Kd.C_alloc ?_ _) | (with_reducible refine Kd.C_drewN ?_ _) | (with_reducible refine Kd.C_drew ?_))); (case side4 => rw [show y192.length = t186.length from (Kd.R_reads' HO_5.out).1.symm]; exact (Kd.R_reads' HO_5.out).2.1); rintro e w47 ⟨v195, rfl, ho0, hb⟩; refine ⟨_, rfl, ?_⟩; have n0_ := Aside0.mk (Kd.R_below (by (with_reducible repeat (first | apply Kd.R_alloc | apply Kd.R_drewN | apply Kd.R_drew)); exact HO_1.out) hb); have n1_ := Aside0.mk (Kd.R_below (by (with_reducible repeat (first | apply Kd.R_alloc | apply Kd.R_drewN | apply Kd.R_drew)); exact HO_5.out) hb); have n2_ := Aside0.mk (Kd.R_lower ho0 (below_size (by repeat (first | (with_reducible first | exact HB.out | apply below_alloc | apply pw_below_drewN | apply below_drew1) | exact HB.out)))); have n3_ := Aside0.mk (below_step (by repeat (first | (with_reducible first | exact HB.out | apply below_alloc | apply pw_below_drewN | apply below_drew1) | exact HB.out)) hb); clear HO_1; clear HO_5; clear HB; have HO_1 := n0_; have HO_5 := n1_; have HO196 := n2_; have HB := n3_; clear n0_ n1_ n2_ n3_; (try clear hb); (try clear hb2); (try clear hk); (try clear hi); (try clear ho0)) | ((with_reducible refine gate_dst (N := 99) rfl ?_); (try (refine gate_guard (by rfl) ?_; dsimp only)); refine Kd.R_lit (Kd.int .i64) _ 3 ?hg (N := 99) ?hd (xs := ([0] : List Int)) (inner := [.int .i64 0]) (ok := fun _ => True) (okp := fun _ => True) ?hr ?hp (fun _ hk => hk) trivial (Below.refl _ _) (Nat.le_refl _) (by simp) ?_; (case hd => rfl); (case hg => rfl); (case hr => first | (go_simp; done) | (go_simp; rfl)); (case hp => exact (Reps.one (show Kd.M (Kd.int .i64) _ _ _ 0 [.int .i64 0] from rfl) (Reps.none _ _))); intro v198 w48 ho49 hb hg_ hnew_; clear hg_ hnew_; (first | rw [← Ny197.out] at ho49 | (simp only [Int.reduceToNat] at ho49; rw [← Ny197.out] at ho49)); have n0_ := Aside0.mk (Kd.R_below (by (with_reducible repeat (first | apply Kd.R_alloc | apply Kd.R_drewN | apply Kd.R_drew)); exact HO_1.out) hb); have n1_ := Aside0.mk (Kd.R_below (by (with_reducible repeat (first | apply Kd.R_alloc | apply Kd.R_drewN | apply Kd.R_drew)); exact HO_5.out) hb); have n2_ := Aside0.mk (Kd.R_elder' (by (with_reducible repeat (first | apply Kd.R_alloc | apply Kd.R_drewN | apply Kd.R_drew)); exact HO196.out) (Kd.R_base ho49) hb); have n3_ := Aside0.mk (Kd.R_lower (Kd.R_new' ho49 (Kd.R_lt (by (with_reducible repeat (first | apply Kd.R_alloc | apply Kd.R_drewN | apply Kd.R_drew)); exact HO196.out))) (below_size (by repeat (first | (with_reducible first | exact HB.out | apply below_alloc | apply pw_below_drewN | apply below_drew1) | exact HB.out)))); have n4_ := Aside0.mk (below_step (by repeat (first | (with_reducible first | exact HB.out | apply below_alloc | apply pw_below_drewN | apply below_drew1) | exact HB.out)) hb); clear HO_1; clear HO_5; clear HO196; clear HB; have HO_1 := n0_; have HO_5 := n1_; have HO196 := n2_; have HO199 := n3_; have HB := n4_; clear n0_ n1_ n2_ n3_ n4_; clear hb ho49; obtain ⟨Ao50, co50, eo50⟩ := Kd.R_slice HO196.out; subst eo50; obtain ⟨Ao51, co51, eo51⟩ := Kd.R_slice HO199.out; subst eo51) | (go_at_call 55; (with_reducible refine (slices_Equal_int_int.calls kj22 _ _ t193 _ _ y197 t200 _ ?side1 ?side2 ?side3 ?side4 A42.out).mono ?_); (case side1 => repeat (first | exact (Kd.R_reads' HO196.out).2.2 | (with_reducible refine Kd.C_alloc ?_ _) | (with_reducible refine Kd.C_drewN ?_ _) | (with_reducible refine Kd.C_drew ?_))); (case side2 => exact (Kd.R_reads' HO196.out).2.1); (case side3 => repeat (first | exact (Kd.R_reads' HO199.out).2.2 | (with_reducible refine Kd.C_alloc ?_ _) | (with_reducible refine Kd.C_drewN ?_ _) | (with_reducible refine Kd.C_drew ?_))); (case side4 => exact (Kd.R_reads' HO199.out).2.1); rintro e w' ⟨rfl, ⟨nd, rfl⟩⟩))
                    go_ret
                    exact ⟨by first | rfl | (simp [errW_none, errW_some] <;> rfl) | (simp [*, errW_none, errW_some] <;> rfl), by repeat (first | (with_reducible first | exact HB.out | apply below_alloc | apply pw_below_drewN | apply below_drew1) | exact HB.out)⟩
                  · rw [if_neg c41] at H
                    have c41b0 : (t194 == 0) = false := beq_eq_false_iff_ne.mpr c41
                    have c41b1 : (t194 != 0) = true := bne_iff_ne.mpr c41
                    obtain rfl := Option.some.inj H
                    have p37 : 0 ≤ (0 : Int) := (by omega)
                    have q37 : (0 : Int) < ((t186.length : Int) : Int) := of_decide_eq_true (by first | (with_reducible assumption) | assumption)
                    have qi37 : (0 < t186.length) = True := eq_true (by omega)
                    obtain ⟨go37, co37, eo37, gb37, gl37, cl37, HG37⟩ := Kd.R_form HO_5.out (by omega)
                    (first | cases eo37 | (injection eo37 with ea_ en_ ec_; (first | subst ea_ | (injection ea_ with ea_; subst ea_)); subst ec_; clear en_))
                    have GB37 := Aside0.mk gb37
                    have GG37 := Aside0.mk HG37
                    clear gb37 gl37 HG37
                    obtain ⟨ce37, hcl37, hM37, hcc37, hfr37⟩ := Kd.R_elem HO_5.out z56 (0 : Int) p37 q37
                    obtain rfl := k56_openM hM37
                    have hx37_0 : wc.cell? ⟨go37, (0 : Int).toNat * 4, none⟩ = some (.int .i64 ((rd_T56 t186 0).f0.f0)) := hcc37 0 _ rfl
                    have hx37_1 : wc.cell? ⟨go37, (0 : Int).toNat * 4 + 1, none⟩ = some (.int .i64 ((rd_T56 t186 0).f0.f1)) := hcc37 1 _ rfl
                    have hx37_2 : wc.cell? ⟨go37, (0 : Int).toNat * 4 + 2, none⟩ = some (.bool ((rd_T56 t186 0).f1)) := hcc37 2 _ rfl
                    have hx37_3 : wc.cell? ⟨go37, (0 : Int).toNat * 4 + 3, none⟩ = some (.int .i64 ((rd_T56 t186 0).f2)) := hcc37 3 _ rfl
                    have hf37_0 : wc.frozen? ⟨go37, (0 : Int).toNat * 4, none⟩ = false := hfr37 0
                    have hf37_1 : wc.frozen? ⟨go37, (0 : Int).toNat * 4 + 1, none⟩ = false := hfr37 1
                    have hf37_2 : wc.frozen? ⟨go37, (0 : Int).toNat * 4 + 2, none⟩ = false := hfr37 2
                    have hf37_3 : wc.frozen? ⟨go37, (0 : Int).toNat * 4 + 3, none⟩ = false := hfr37 3
                    clear hcl37 hcc37 hfr37 hM37
                    (try rw [show ((0 : Int)).toNat = 0 from rfl] at hx37_0)
                    (try simp only [Nat.reduceMul, Nat.zero_mul, Nat.zero_add, Nat.reduceAdd] at hx37_0)
                    (try rw [show ((0 : Int)).toNat = 0 from rfl] at hf37_0)
                    (try simp only [Nat.reduceMul, Nat.zero_mul, Nat.zero_add, Nat.reduceAdd] at hf37_0)
                    (try rw [show ((0 : Int)).toNat = 0 from rfl] at hx37_1)
                    (try simp only [Nat.reduceMul, Nat.zero_mul, Nat.zero_add, Nat.reduceAdd] at hx37_1)
                    (try rw [show ((0 : Int)).toNat = 0 from rfl] at hf37_1)
                    (try simp only [Nat.reduceMul, Nat.zero_mul, Nat.zero_add, Nat.reduceAdd] at hf37_1)
                    (try rw [show ((0 : Int)).toNat = 0 from rfl] at hx37_2)
                    (try simp only [Nat.reduceMul, Nat.zero_mul, Nat.zero_add, Nat.reduceAdd] at hx37_2)
                    (try rw [show ((0 : Int)).toNat = 0 from rfl] at hf37_2)
                    (try simp only [Nat.reduceMul, Nat.zero_mul, Nat.zero_add, Nat.reduceAdd] at hf37_2)
                    (try rw [show ((0 : Int)).toNat = 0 from rfl] at hx37_3)
                    (try simp only [Nat.reduceMul, Nat.zero_mul, Nat.zero_add, Nat.reduceAdd] at hx37_3)
                    (try rw [show ((0 : Int)).toNat = 0 from rfl] at hf37_3)
                    (try simp only [Nat.reduceMul, Nat.zero_mul, Nat.zero_add, Nat.reduceAdd] at hf37_3)
                    replace p37 := eq_true p37
                    replace q37 := eq_true q37
                    have HX52 := Aside0.mk (show Kd.R k56 56 wc w.heap.size (fun _ => True) (.slice (some ⟨go37, 0, none⟩) t186.length co37) t186 from (by (with_reducible repeat (first | apply Kd.R_alloc | apply Kd.R_drewN | apply Kd.R_drew)); exact HO_5.out))
                    obtain ⟨ce52, hcl52, hM52, hcc52, hfr52⟩ := Kd.R_elem HX52.out z56 (0 : Int) (by omega) (by have h_ : (0 : Int) < ((t186.length : Int) : Int) := of_decide_eq_true (by first | (with_reducible assumption) | assumption); first | exact h_ | (have e_ := (Kd.R_reads' HO_5.out).1; omega) | simpa using h_)
                    obtain rfl := k56_openM hM52
                    have HP52 := Kd.R_seg HX52.out (0 : Int) (by omega) (by have h_ : (0 : Int) < ((t186.length : Int) : Int) := of_decide_eq_true (by first | (with_reducible assumption) | assumption); first | exact h_ | (have e_ := (Kd.R_reads' HO_5.out).1; omega) | simpa using h_) (seg := [.int .i64 91]) (j := 3) hcl52 hcc52 (show 4 ≤ 4 from by decide) (x' := (⟨(⟨(rd_T56 t186 0).f0.f0, (rd_T56 t186 0).f0.f1⟩ : S23), (rd_T56 t186 0).f1, 91⟩ : S56)) (k56_mkM _ _ _ (⟨(⟨(rd_T56 t186 0).f0.f0, (rd_T56 t186 0).f0.f1⟩ : S23), (rd_T56 t186 0).f1, 91⟩ : S56) ) (fun _ hk => hk)
                    have hx52_3 := hcc52 3 _ rfl
                    (try simp only [show (k56).sz = 4 from rfl, Nat.mul_one, Nat.add_zero] at hx52_3)
                    (try rw [show ((0 : Int)).toNat = 0 from rfl] at hx52_3)
                    (try simp only [Nat.reduceMul, Nat.zero_mul, Nat.zero_add, Nat.reduceAdd] at hx52_3)
                    have hf52_3 := hfr52 3
                    (try simp only [show (k56).sz = 4 from rfl, Nat.mul_one, Nat.add_zero] at hf52_3)
                    (try rw [show ((0 : Int)).toNat = 0 from rfl] at hf52_3)
                    (try simp only [Nat.reduceMul, Nat.zero_mul, Nat.zero_add, Nat.reduceAdd] at hf52_3)
                    clear hcl52 hcc52 hfr52 hM52
                    go_wp2_with (first | ((with_reducible refine gate_store (t := 3) (p := 86) rfl ?_); refine store_event (t := 3) (p := 86) (v := ?vo_w53) (w1 := (wc.setCell ⟨go37, 3, none⟩ (.int .i64 91))) ?hg ?ho ?hn ?hr ?_; (case ho => rfl); (case hg => rfl); (case hn => rfl); (case hr => first | (go_simp; done) | (go_simp; rfl)); intro w53 hw; have hg : wc.grownBy w53 (some go37) := (by rw [hw]; exact HP52.2); have hp_ : Kd.R k56 56 w53 w.heap.size (fun _ => True) (.slice (some ⟨go37, 0, none⟩) t186.length co37) y191 := (by rw [hw, Ny191.out]; exact HP52.1); clear HP52; have n0_ := Aside0.mk (Kd.R_over' (v := (.slice (some ⟨go37, 0, none⟩) t186.length co37)) (by (with_reducible repeat (first | apply Kd.R_alloc | apply Kd.R_drewN | apply Kd.R_drew)); exact HO_1.out) (Kd.R_typed HO_5.out) (by decide) hg); have n1_ := Aside0.mk (hp_); have n2_ := Aside0.mk ((by rw [hw]; exact below_set (HB.out) GB37.out : Below w.heap.size w w53)); clear HO_1; clear HO_5; clear HB; have HO_1 := n0_; have HO_5 := n1_; have HB := n2_; clear n0_ n1_ n2_; clear hg hw hp_; have p39 : 0 ≤ (1 : Int) := (by omega); have q39 : (1 : Int) < ((t186.length : Int) : Int) := of_decide_eq_true (by first | (with_reducible assumption) | assumption); have qi39 : (1 < t186.length) = True := eq_true (by omega); obtain ⟨ce39, hcl39, hM39, hcc39, hfr39⟩ := Kd.R_elem HO_5.out z56 (1 : Int) p39 q39; obtain rfl := k56_openM hM39; have hx39_0 : w53.cell? ⟨go37, (1 : Int).toNat * 4, none⟩ = some (.int .i64 ((rd_T56 y191 1).f0.f0)) := hcc39 0 _ rfl; have hx39_1 : w53.cell? ⟨go37, (1 : Int).toNat * 4 + 1, none⟩ = some (.int .i64 ((rd_T56 y191 1).f0.f1)) := hcc39 1 _ rfl; have hx39_2 : w53.cell? ⟨go37, (1 : Int).toNat * 4 + 2, none⟩ = some (.bool ((rd_T56 y191 1).f1)) := hcc39 2 _ rfl; have hx39_3 : w53.cell? ⟨go37, (1 : Int).toNat * 4 + 3, none⟩ = some (.int .i64 ((rd_T56 y191 1).f2)) := hcc39 3 _ rfl; have hf39_0 : w53.frozen? ⟨go37, (1 : Int).toNat * 4, none⟩ = false := hfr39 0; have hf39_1 : w53.frozen? ⟨go37, (1 : Int).toNat * 4 + 1, none⟩ = false := hfr39 1; have hf39_2 : w53.frozen? ⟨go37, (1 : Int).toNat * 4 + 2, none⟩ = false := hfr39 2; have hf39_3 : w53.frozen? ⟨go37, (1 : Int).toNat * 4 + 3, none⟩ = false := hfr39 3; clear hcl39 hcc39 hfr39 hM39; (try rw [show ((1 : Int)).toNat = 1 from rfl] at hx39_0); (try simp only [Nat.reduceMul, Nat.zero_mul, Nat.zero_add, Nat.reduceAdd] at hx39_0); (try rw [show ((1 : Int)).toNat = 1 from rfl] at hf39_0); (try simp only [Nat.reduceMul, Nat.zero_mul, Nat.zero_add, Nat.reduceAdd] at hf39_0); (try rw [show ((1 : Int)).toNat = 1 from rfl] at hx39_1); (try simp only [Nat.reduceMul, Nat.zero_mul, Nat.zero_add, Nat.reduceAdd] at hx39_1); (try rw [show ((1 : Int)).toNat = 1 from rfl] at hf39_1); (try simp only [Nat.reduceMul, Nat.zero_mul, Nat.zero_add, Nat.reduceAdd] at hf39_1); (try rw [show ((1 : Int)).toNat = 1 from rfl] at hx39_2); (try simp only [Nat.reduceMul, Nat.zero_mul, Nat.zero_add, Nat.reduceAdd] at hx39_2); (try rw [show ((1 : Int)).toNat = 1 from rfl] at hf39_2); (try simp only [Nat.reduceMul, Nat.zero_mul, Nat.zero_add, Nat.reduceAdd] at hf39_2); (try rw [show ((1 : Int)).toNat = 1 from rfl] at hx39_3); (try simp only [Nat.reduceMul, Nat.zero_mul, Nat.zero_add, Nat.reduceAdd] at hx39_3); (try rw [show ((1 : Int)).toNat = 1 from rfl] at hf39_3); (try simp only [Nat.reduceMul, Nat.zero_mul, Nat.zero_add, Nat.reduceAdd] at hf39_3); replace p39 := eq_true p39; replace q39 := eq_true q39; have HX54 := Aside0.mk (show Kd.R k56 56 w53 w.heap.size (fun _ => True) (.slice (some ⟨go37, 0, none⟩) t186.length co37) y191 from (by (with_reducible repeat (first | apply Kd.R_alloc | apply Kd.R_drewN | apply Kd.R_drew)); exact HO_5.out)); obtain ⟨ce54, hcl54, hM54, hcc54, hfr54⟩ := Kd.R_elem HX54.out z56 (1 : Int) (by omega) (by have h_ : (1 : Int) < ((t186.length : Int) : Int) := of_decide_eq_true (by first | (with_reducible assumption) | assumption); first | exact h_ | (have e_ := (Kd.R_reads' HO_5.out).1; omega) | simpa using h_); obtain rfl := k56_openM hM54; have HP54 := Kd.R_seg HX54.out (1 : Int) (by omega) (by have h_ : (1 : Int) < ((t186.length : Int) : Int) := of_decide_eq_true (by first | (with_reducible assumption) | assumption); first | exact h_ | (have e_ := (Kd.R_reads' HO_5.out).1; omega) | simpa using h_) (seg := [.int .i64 64]) (j := 3) hcl54 hcc54 (show 4 ≤ 4 from by decide) (x' := (⟨(⟨(rd_T56 y191 1).f0.f0, (rd_T56 y191 1).f0.f1⟩ : S23), (rd_T56 y191 1).f1, 64⟩ : S56)) (k56_mkM _ _ _ (⟨(⟨(rd_T56 y191 1).f0.f0, (rd_T56 y191 1).f0.f1⟩ : S23), (rd_T56 y191 1).f1, 64⟩ : S56) ) (fun _ hk => hk); have hx54_3 := hcc54 3 _ rfl; (try simp only [show (k56).sz = 4 from rfl, Nat.mul_one, Nat.add_zero] at hx54_3); (try rw [show ((1 : Int)).toNat = 1 from rfl] at hx54_3); (try simp only [Nat.reduceMul, Nat.zero_mul, Nat.zero_add, Nat.reduceAdd] at hx54_3); have hf54_3 := hfr54 3; (try simp only [show (k56).sz = 4 from rfl, Nat.mul_one, Nat.add_zero] at hf54_3); (try rw [show ((1 : Int)).toNat = 1 from rfl] at hf54_3); (try simp only [Nat.reduceMul, Nat.zero_mul, Nat.zero_add, Nat.reduceAdd] at hf54_3); clear hcl54 hcc54 hfr54 hM54) | ((with_reducible refine gate_store (t := 3) (p := 88) rfl ?_); refine store_event (t := 3) (p := 88) (v := ?vo_w55) (w1 := (w53.setCell ⟨go37, 7, none⟩ (.int .i64 64))) ?hg ?ho ?hn ?hr ?_; (case ho => rfl); (case hg => rfl); (case hn => rfl); (case hr => first | (go_simp; done) | (go_simp; rfl)); intro w55 hw; have hg : w53.grownBy w55 (some go37) := (by rw [hw]; exact HP54.2); have hp_ : Kd.R k56 56 w55 w.heap.size (fun _ => True) (.slice (some ⟨go37, 0, none⟩) t186.length co37) y192 := (by rw [hw, Ny192.out]; exact HP54.1); clear HP54; have n0_ := Aside0.mk (Kd.R_over' (v := (.slice (some ⟨go37, 0, none⟩) t186.length co37)) (by (with_reducible repeat (first | apply Kd.R_alloc | apply Kd.R_drewN | apply Kd.R_drew)); exact HO_1.out) (Kd.R_typed HO_5.out) (by decide) hg); have n1_ := Aside0.mk (hp_); have n2_ := Aside0.mk ((by rw [hw]; exact below_set (HB.out) GB37.out : Below w.heap.size w w55)); clear HO_1; clear HO_5; clear HB; have HO_1 := n0_; have HO_5 := n1_; have HB := n2_; clear n0_ n1_ n2_; clear hg hw hp_) | ((with_reducible refine gate_callee (f := 36) rfl ?_); refine goesL_ (some 92) rfl rfl Tryd.func36 (by kernel_rfl) rfl #[.slice Ao5 t173.length co5, .slice (some ⟨go37, 0, none⟩) y192.length co37] rfl (by (try simp only [List.map_toArray, List.map_cons, List.map_nil]); first | done | (rw [show y192.length = t186.length from (Kd.R_reads' HO_5.out).1.symm] <;> rfl) | rfl | (simp only [List.length_drop, List.length_take]; rfl)) ?_; (with_reducible refine (gauge_Worn.calls kj22 _ _ t173 _ _ y192 t193 t194 _ ?side1 ?side2 ?side3 ?side4 A40.out (by exact sig_below HS.out (by repeat (first | (with_reducible first | exact HB.out | apply below_alloc | apply pw_below_drewN | apply below_drew1 | fail) | exact HB.out)))).mono ?_); (case side1 => repeat (first | exact (Kd.R_reads' HO_1.out).2.2 | (with_reducible refine Kd.C_alloc ?_ _) | (with_reducible refine Kd.C_drewN ?_ _) | (with_reducible refine Kd.C_drew ?_))); (case side2 => exact (Kd.R_reads' HO_1.out).2.1); (case side3 => repeat (first | exact (Kd.R_reads' HO_5.out).2.2 | (with_reducible refine Kd.C_alloc ?_ _) | (with_reducible refine Kd.C_drewN ?_ _) | (with_reducible refine Kd.C_drew ?_))); (case side4 => rw [show y192.length = t186.length from (Kd.R_reads' HO_5.out).1.symm]; exact (Kd.R_reads' HO_5.out).2.1); rintro e w56 ⟨v195, rfl, ho0, hb⟩; refine ⟨_, rfl, ?_⟩; have n0_ := Aside0.mk (Kd.R_below (by (with_reducible repeat (first | apply Kd.R_alloc | apply Kd.R_drewN | apply Kd.R_drew)); exact HO_1.out) hb); have n1_ := Aside0.mk (Kd.R_below (by (with_reducible repeat (first | apply Kd.R_alloc | apply Kd.R_drewN | apply Kd.R_drew)); exact HO_5.out) hb); have n2_ := Aside0.mk (Kd.R_lower ho0 (below_size (by repeat (first | (with_reducible first | exact HB.out | apply below_alloc | apply pw_below_drewN | apply below_drew1) | exact HB.out)))); have n3_ := Aside0.mk (below_step (by repeat (first | (with_reducible first | exact HB.out | apply below_alloc | apply pw_below_drewN | apply below_drew1) | exact HB.out)) hb); clear HO_1; clear HO_5; clear HB; have HO_1 := n0_; have HO_5 := n1_; have HO196 := n2_; have HB := n3_; clear n0_ n1_ n2_ n3_; (try clear hb); (try clear hb2); (try clear hk); (try clear hi); (try clear ho0)))
                    go_ret
                    exact ⟨by first | rfl | (simp [errW_none, errW_some] <;> rfl) | (simp [*, errW_none, errW_some] <;> rfl), by repeat (first | (with_reducible first | exact HB.out | apply below_alloc | apply pw_below_drewN | apply below_drew1) | exact HB.out)⟩
                · rw [if_neg c38] at H
                  exact absurd H (by simp)
              · rw [if_neg c36] at H
                exact absurd H (by simp)
end Go.Proofs.YtjemaonejkepcaaDoor.G
namespace Go.Proofs.YtjemaonejkepcaaDoor.G
set_option linter.unusedVariables false
set_option linter.unusedSimpArgs false
open Go.Proofs.YtjemaonejkepcaaDoor.B
open Go.RowKit Go.Proofs.YtjemaonejkepcaaDoorW.PrintWords
theorem awake_60 : metrolablaw47_awake.f 60 = some true := by decide +kernel
theorem awake_ok (k : Nat) (hk : 60 ≤ k) : metrolablaw47_awake.f k = some true := by
  obtain ⟨j, rfl⟩ : ∃ j, k = 60 + j := ⟨k - 60, by omega⟩
  clear hk
  induction j with
  | zero => exact awake_60
  | succ j ih => exact metrolablaw47_awake.mono (60 + j) _ ih
/-- The element of a right target. -/
def de (W M : Int) (t : S27) : S104 := if t.f4 = true then ⟨⟨t.f0.f0, t.f0.f1⟩, true, ⟨tv t - W - M, tv t - W⟩⟩ else ⟨⟨t.f0.f0, t.f0.f1⟩, false, ⟨tv t + W, tv t + W + M⟩⟩
/-- All elements' sizes are at least 1. -/
def lowOk (W M : Int) : List S27 → Bool
  | [] => true
  | t :: r => decide (1 ≤ (de W M t).f2.f0) && lowOk W M r
/-- The error of a design. -/
def dz (W M : Int) (l : List S27) : Int := if ce l = 0 then (if 0 ≤ W ∧ W ≤ 100000 ∧ 0 ≤ M ∧ M ≤ 100000 then (if lowOk W M l = true then 0 else 14) else 2) else ce l
theorem de_step {sz : List Int} {W M : Int} (hW : 0 ≤ W ∧ W ≤ 100000) (hM : 0 ≤ M ∧ M ≤ 100000) {l : List S27} {i : Int} (h0 : 0 ≤ i) (h1 : i < (l.length : Int)) (hs : sz = l.map tv) (ht : te (rd_T27 l i) = 0) :
    @gauge_Design_1.f (Dat82.mk sz W M) i (rd_T27 l i).f0.f0 (rd_T27 l i).f0.f1 (rd_T27 l i).f1.f0 (rd_T27 l i).f1.f1 (rd_T27 l i).f2 (rd_T27 l i).f3 (rd_T27 l i).f4
      = some (if 1 ≤ (de W M (rd_T27 l i)).f2.f0 then ((de W M (rd_T27 l i)).f0.f0, (de W M (rd_T27 l i)).f0.f1, (de W M (rd_T27 l i)).f1, (de W M (rd_T27 l i)).f2.f0, (de W M (rd_T27 l i)).f2.f1, 0) else (0, 0, false, 0, 0, 14)) := by
  have hl : i < (sz.length : Int) := by rw [hs]; simpa using h1
  have hr : rd sz i = tv (rd_T27 l i) := by rw [hs]; exact getD_map tv l z27 0 (by omega)
  have hv := tv_range ht
  unfold gauge_Design_1.f de
  rw [if_pos h0]
  simp only [hr]
  rw [if_pos hl]
  cases hp : (rd_T27 l i).f4 with
  | true =>
    simp only [if_true]
    rw [w64 (n := tv (rd_T27 l i) - W) (by omega), w64 (by omega)]
    by_cases hL : tv (rd_T27 l i) - W - M < 1
    · rw [if_pos hL, if_neg (by omega)]
    · rw [if_neg hL, if_pos (by omega)]
  | false =>
    simp only [Bool.false_eq_true, if_false]
    rw [w64 (n := tv (rd_T27 l i) + W) (by omega), w64 (by omega)]
    by_cases hL : tv (rd_T27 l i) + W < 1
    · rw [if_pos hL, if_neg (by omega)]
    · rw [if_neg hL, if_pos (by omega)]
theorem low_ok {W M : Int} {t : S27} {r : List S27} (h : 1 ≤ (de W M t).f2.f0) : lowOk W M (t :: r) = lowOk W M r := by
  show (decide (1 ≤ (de W M t).f2.f0) && lowOk W M r) = _; rw [decide_eq_true h]; rfl
theorem low_bad {W M : Int} {t : S27} {r : List S27} (h : ¬ 1 ≤ (de W M t).f2.f0) : lowOk W M (t :: r) = false := by
  show (decide (1 ≤ (de W M t).f2.f0) && lowOk W M r) = _; rw [decide_eq_false h]; rfl
theorem elem_l0 {W M : Int} (hW : 0 ≤ W ∧ W ≤ 100000) (hM : 0 ≤ M ∧ M ≤ 100000) (l : List S27) (hn : l.length ≤ 1000) (hl : ∀ t ∈ l, te t = 0) (d : Nat) : ∀ (k : Nat) (acc : List S104) (i : Int), 0 ≤ i → (l.length : Int) - i = d → acc.length + d ≤ 1000 → d + 4 ≤ k →
    @gauge_Element.l0 (Dat82.mk (l.map tv) W M) k acc l (l.length : Int) i = some (if lowOk W M (l.drop i.toNat) = true then (acc ++ (l.drop i.toNat).map (de W M), 0) else ([], 14)) := by
  induction d with
  | zero =>
    intro k acc i h0 hd ha hk
    obtain ⟨k, rfl⟩ : ∃ m, k = m + 1 := ⟨k - 1, by omega⟩
    rw [drop_end l (by omega)]
    simp only [gauge_Element.l0]
    rw [if_neg (by omega)]; simp [lowOk]
  | succ d ih =>
    intro k acc i h0 hd ha hk
    obtain ⟨k, rfl⟩ : ∃ m, k = m + 1 := ⟨k - 1, by omega⟩
    have h1 : i < (l.length : Int) := by omega
    have hm : te (rd_T27 l i) = 0 := by
      apply hl
      have : l.drop i.toNat = rd_T27 l i :: l.drop (i + 1).toNat := drop_rd l z27 h0 h1
      exact List.mem_of_mem_drop (by rw [this]; exact List.mem_cons_self)
    rw [drop_rd l z27 h0 h1]
    simp only [gauge_Element.l0]
    rw [if_pos h1, if_pos h0, if_pos h1, de_step hW hM h0 h1 rfl hm]
    by_cases hL : 1 ≤ (de W M (rd_T27 l i)).f2.f0
    · rw [if_pos hL]
      simp only [Option.bind_some, if_true]
      rw [if_pos (by omega), up64 h0 (by omega), ih k _ (i + 1) (by omega) (by omega) (by simp; omega) (by omega), low_ok (t := l.getD i.toNat z27) hL]
      by_cases hf : lowOk W M (l.drop (i + 1).toNat) = true
      · rw [if_pos hf, if_pos hf]; simp [rd_T27]
      · rw [if_neg hf, if_neg hf]
    · rw [if_neg hL, low_bad (t := l.getD i.toNat z27) hL]
      simp
theorem gdesign (k : Nat) (hk : 40 ≤ k) (l : List S27) (W M : Int) : gauge_Design.f k l W M = some (if dz W M l = 0 then l.map (de W M) else [], dz W M l) := by
  unfold gauge_Design.f dz
  rw [gvirtual k hk]
  by_cases hc : ce l = 0
  · rw [if_pos hc, if_pos hc]
    simp only [Option.bind_some, if_true]
    by_cases hr : 0 ≤ W ∧ W ≤ 100000 ∧ 0 ≤ M ∧ M ≤ 100000
    · rw [if_neg (show ¬ W < 0 by omega), if_neg (show ¬ 100000 < W by omega), if_neg (show ¬ M < 0 by omega), if_neg (show ¬ 100000 < M by omega), if_pos hr]
      obtain ⟨hn1, hn2, hl⟩ := ce_ok hc
      simp only [gauge_Element.f]
      rw [elem_l0 ⟨hr.1, hr.2.1⟩ hr.2.2 l (by omega) hl l.length k [] 0 (by omega) (by omega) (by simp; omega) (by omega)]
      by_cases hf : lowOk W M l = true
      · simp [hf]
      · simp [hf]
    · rw [if_neg hr]
      by_cases a1 : W < 0
      · rw [if_pos a1]; rfl
      · rw [if_neg a1]
        by_cases a2 : 100000 < W
        · rw [if_pos a2]; rfl
        · rw [if_neg a2]
          by_cases a3 : M < 0
          · rw [if_pos a3]; rfl
          · rw [if_neg a3, if_pos (show 100000 < M by omega)]; rfl
  · rw [if_neg hc, if_neg hc]
    simp only [Option.bind_some]
    rw [if_neg hc, if_neg hc]
end Go.Proofs.YtjemaonejkepcaaDoor.G
namespace Go.Proofs.YtjemaonejkepcaaDoor.G
open Go.Proofs.YtjemaonejkepcaaDoor.B
open Go.RowKit Go.Proofs.YtjemaonejkepcaaDoorW.PrintWords Go.Proofs.YtjemaonejkepcaaDoorW.PrintLast Go.Proofs.YtjemaonejkepcaaDoorW.PrintMore
attribute [local go_sem] max2_int min2_int max_two min_two max_three min_three max_four min_four   -- for this text's walks alone
set_option linter.unusedVariables false
set_option linter.unusedSimpArgs false
theorem eqA141 (d : Nat) (w : World) (x0 y0 : Int) (x1 y1 : Int) (x2 y2 : Bool) (x3 y3 : Int) (x4 y4 : Int) :
    (Op.equalIn (d + 3) 141 (.agg #[.int .i64 x0, .int .i64 x1, .bool x2, .int .i64 x3, .int .i64 x4]) (.agg #[.int .i64 y0, .int .i64 y1, .bool y2, .int .i64 y3, .int .i64 y4])).run Tryd.prog w = .ok ((x0 == y0 && (x1 == y1)) && (x2 == y2 && ((x3 == y3 && (x4 == y4))))) w := by
  refine eqA_of Tryd.underlying141 (by kernel_rfl) ?_
  refine eqf_cons (by rfl) (by go_simp) (by go_simp) (eqA23 (d + 0) w _ _ _ _) ?_
  refine eqf_cons (by rfl) (by go_simp; rfl) (by go_simp; rfl) (by go_simp) ?_
  exact eqf_last (by rfl) (by go_simp) (by go_simp) (eqA25 (d + 0) w _ _ _ _)
end Go.Proofs.YtjemaonejkepcaaDoor.G
namespace Go.Proofs.YtjemaonejkepcaaDoor.G
set_option linter.unusedVariables false
set_option linter.unusedSimpArgs false
open Go.Proofs.YtjemaonejkepcaaDoor.B
open Go.RowKit Go.Proofs.YtjemaonejkepcaaDoorW.PrintWords
/-- An element as one of the reference. -/
def el (x : S104) : S141 := ⟨⟨x.f0.f0, x.f0.f1⟩, x.f1, ⟨x.f2.f0, x.f2.f1⟩⟩
end Go.Proofs.YtjemaonejkepcaaDoor.G
namespace Go.Proofs.YtjemaonejkepcaaDoor.G
set_option linter.unusedVariables false
set_option linter.unusedSimpArgs false
open Go.Proofs.YtjemaonejkepcaaDoor.B
open Go.RowKit Go.Proofs.YtjemaonejkepcaaDoorW.PrintWords
/-- The error of the limits of an element. -/
def lim (lo hi : Int) : Int := if (1 ≤ lo ∧ lo ≤ 300000) ∧ (1 ≤ hi ∧ hi ≤ 300000) then (if lo > hi then 9 else 0) else 2
theorem granged (a : Int) : gauge_ranged.f a = some (decide (1 ≤ a ∧ a ≤ 300000)) := by
  unfold gauge_ranged.f
  by_cases h : a ≥ 1
  · rw [if_pos h]; simp; omega
  · rw [if_neg h]; simp; omega
theorem glimits (k : Nat) (hk : 1 ≤ k) (lo hi : Int) : gauge_limits.f k lo hi = some (lim lo hi) := by
  obtain ⟨k, rfl⟩ : ∃ m, k = m + 1 := ⟨k - 1, by omega⟩
  unfold gauge_limits.f lim
  simp only [granged, Option.bind_some, decide_eq_true_eq]
  by_cases A : 1 ≤ lo ∧ lo ≤ 300000
  · rw [if_pos A]
    simp only [gauge_limits.j0]
    by_cases B : 1 ≤ hi ∧ hi ≤ 300000
    · rw [if_pos (show (1 ≤ lo ∧ lo ≤ 300000) ∧ (1 ≤ hi ∧ hi ≤ 300000) from ⟨A, B⟩), decide_eq_true B, if_neg (by decide)]
      by_cases C : lo > hi
      · rw [if_pos C, if_pos C]
      · rw [if_neg C, if_neg C]
    · rw [if_neg (show ¬ ((1 ≤ lo ∧ lo ≤ 300000) ∧ (1 ≤ hi ∧ hi ≤ 300000)) from fun h => B h.2), decide_eq_false B, if_pos (by decide)]
  · rw [if_neg A, if_neg (show ¬ ((1 ≤ lo ∧ lo ≤ 300000) ∧ (1 ≤ hi ∧ hi ≤ 300000)) from fun h => A h.1)]
    simp only [gauge_limits.j0]
    rw [if_pos trivial]
end Go.Proofs.YtjemaonejkepcaaDoor.G
namespace Go.Proofs.YtjemaonejkepcaaDoor.G
open Go.Proofs.YtjemaonejkepcaaDoor.B
open Go.RowKit Go.Proofs.YtjemaonejkepcaaDoorW.PrintWords Go.Proofs.YtjemaonejkepcaaDoorW.PrintLast Go.Proofs.YtjemaonejkepcaaDoorW.PrintMore
attribute [local go_sem] max2_int min2_int max_two min_two max_three min_three max_four min_four   -- for this text's walks alone
set_option linter.unusedVariables false
set_option linter.unusedSimpArgs false
theorem eqA142 (d : Nat) (w : World) (x0 y0 : Int) (x1 y1 : Int) (x2 y2 : Bool) (x3 y3 : Int) :
    (Op.equalIn (d + 3) 142 (.agg #[.int .i64 x0, .int .i64 x1, .bool x2, .int .i64 x3]) (.agg #[.int .i64 y0, .int .i64 y1, .bool y2, .int .i64 y3])).run Tryd.prog w = .ok ((x0 == y0 && (x1 == y1)) && (x2 == y2 && (x3 == y3))) w := by
  refine eqA_of Tryd.underlying142 (by kernel_rfl) ?_
  refine eqf_cons (by rfl) (by go_simp) (by go_simp) (eqA23 (d + 0) w _ _ _ _) ?_
  refine eqf_cons (by rfl) (by go_simp; rfl) (by go_simp; rfl) (by go_simp) ?_
  exact eqf_last (by rfl) (by go_simp; rfl) (by go_simp; rfl) (by go_simp)
end Go.Proofs.YtjemaonejkepcaaDoor.G
namespace Go.Proofs.YtjemaonejkepcaaDoor.G
set_option linter.unusedVariables false
set_option linter.unusedSimpArgs false
open Go.Proofs.YtjemaonejkepcaaDoor.B
open Go.RowKit Go.Proofs.YtjemaonejkepcaaDoorW.PrintWords Go.Proofs.YtjemaonejkepcaaDoorW.PrintMore
/-- A tool, made; a tool as one of the reference. -/
def mkt (high : Bool) (x : S104) : S56 := ⟨⟨x.f0.f0, x.f0.f1⟩, x.f1, if high = true then x.f2.f1 else x.f2.f0⟩
/-- The first error of the elements' limits. -/
def ge : List S104 → Int
  | [] => 0
  | x :: r => if lim x.f2.f0 x.f2.f1 = 0 then ge r else lim x.f2.f0 x.f2.f1
theorem ge_ok {x : S104} {r : List S104} (h : lim x.f2.f0 x.f2.f1 = 0) : ge (x :: r) = ge r := by
  show (if lim x.f2.f0 x.f2.f1 = 0 then ge r else lim x.f2.f0 x.f2.f1) = _; rw [if_pos h]
theorem ge_bad {x : S104} {r : List S104} (h : ¬ lim x.f2.f0 x.f2.f1 = 0) : ge (x :: r) = lim x.f2.f0 x.f2.f1 := by
  show (if lim x.f2.f0 x.f2.f1 = 0 then ge r else lim x.f2.f0 x.f2.f1) = _; rw [if_neg h]
def mz (g : List S104) : Int := if 16 < g.length then 5 else ge g
theorem made_1 (high : Bool) (i : Int) (x : S104) : ∃ a b c e, @gauge_Made_1.f (Dat86.mk high) i x.f0.f0 x.f0.f1 x.f1 x.f2.f0 x.f2.f1 = some (a, b, c, e, lim x.f2.f0 x.f2.f1) ∧ (lim x.f2.f0 x.f2.f1 = 0 → (⟨⟨a, b⟩, c, e⟩ : S56) = mkt high x) := by
  unfold gauge_Made_1.f mkt
  rw [glimits 2 (by omega)]
  simp only [Option.bind_some]
  by_cases h : lim x.f2.f0 x.f2.f1 = 0
  · rw [if_pos h, h]
    cases high with
    | true => rw [if_pos rfl]; exact ⟨_, _, _, _, rfl, fun _ => rfl⟩
    | false => rw [if_neg Bool.false_ne_true]; exact ⟨_, _, _, _, rfl, fun _ => rfl⟩
  · rw [if_neg h]; exact ⟨_, _, _, _, rfl, fun h2 => absurd h2 h⟩
theorem made_l0 (high : Bool) (g : List S104) (hn : g.length ≤ 1000) (d : Nat) : ∀ (k : Nat) (acc : List S56) (i : Int), 0 ≤ i → (g.length : Int) - i = d → acc.length + d ≤ 1000 → d < k →
    @gauge_Tool_85.l0 (Dat86.mk high) k acc g (g.length : Int) i = some (if ge (g.drop i.toNat) = 0 then (acc ++ (g.drop i.toNat).map (mkt high), 0) else ([], ge (g.drop i.toNat))) := by
  induction d with
  | zero =>
    intro k acc i h0 hd ha hk
    obtain ⟨k, rfl⟩ : ∃ m, k = m + 1 := ⟨k - 1, by omega⟩
    rw [drop_end g (by omega)]
    simp only [gauge_Tool_85.l0]
    rw [if_neg (by omega)]; simp [ge]
  | succ d ih =>
    intro k acc i h0 hd ha hk
    obtain ⟨k, rfl⟩ : ∃ m, k = m + 1 := ⟨k - 1, by omega⟩
    have h1 : i < (g.length : Int) := by omega
    rw [drop_rd g z104 h0 h1]
    simp only [gauge_Tool_85.l0]
    rw [if_pos h1, if_pos h0, if_pos h1]
    obtain ⟨a, b, c, e, hv, hp⟩ := made_1 high i (rd_T104 g i)
    rw [hv]
    simp only [Option.bind_some]
    by_cases ht : lim (rd_T104 g i).f2.f0 (rd_T104 g i).f2.f1 = 0
    · rw [if_pos ht, if_pos (by omega), up64 h0 (by omega), ih k _ (i + 1) (by omega) (by omega) (by simp; omega) (by omega), hp ht, ge_ok (x := g.getD i.toNat z104) ht]
      by_cases hf : ge (g.drop (i + 1).toNat) = 0
      · rw [if_pos hf, if_pos hf]; simp [rd_T104]
      · rw [if_neg hf, if_neg hf]
    · rw [if_neg ht, ge_bad (x := g.getD i.toNat z104) ht, if_neg (show ¬ lim (g.getD i.toNat z104).f2.f0 (g.getD i.toNat z104).f2.f1 = 0 from ht)]; rfl
theorem gmade (k : Nat) (hk : 40 ≤ k) (g : List S104) (high : Bool) : gauge_Made.f k g high = some (if mz g = 0 then g.map (mkt high) else [], mz g) := by
  unfold gauge_Made.f mz gauge_few.f
  by_cases h1 : 16 < g.length
  · rw [if_pos (show (g.length : Int) > 16 by omega), if_pos h1]; rfl
  · rw [if_neg (show ¬ (g.length : Int) > 16 by omega), if_neg h1]
    simp only [Option.bind_some, if_true, gauge_Tool_85.f]
    rw [made_l0 high g (by omega) g.length k [] 0 (by omega) (by omega) (by simp; omega) (by omega)]
    simp only [Int.toNat_zero, List.drop_zero, List.nil_append]
    by_cases hf : ge g = 0
    · rw [if_pos hf, if_pos hf, hf]
    · rw [if_neg hf, if_neg hf]
end Go.Proofs.YtjemaonejkepcaaDoor.G
namespace Go.Proofs.YtjemaonejkepcaaDoor.G
set_option linter.unusedVariables false
set_option linter.unusedSimpArgs false
open Go.Proofs.YtjemaonejkepcaaDoor.B
open Go.RowKit Go.Proofs.YtjemaonejkepcaaDoorW.PrintWords
theorem tv_is {t : S27} (h : te t = 0) : tv t = if t.f4 = true then t.f1.f1 + t.f2 else t.f1.f0 - t.f2 := by
  obtain ⟨_, hm⟩ := te_ok h
  unfold tv vir
  rw [hm]
  cases hp : t.f4 <;> simp
theorem tv_hole {t : S27} (h : te t = 0) (hp : t.f4 = false) : 1 ≤ tv t ∧ tv t ≤ 100000 := by
  obtain ⟨⟨h1, h2, h3, h4, h5, h6, h7, h8, h9⟩, hm⟩ := te_ok h
  rw [tv_is h, hp, if_neg Bool.false_ne_true]
  have := h8 hp
  omega
theorem tv_pin {t : S27} (h : te t = 0) (hp : t.f4 = true) : 1 ≤ tv t ∧ tv t ≤ 200000 := by
  obtain ⟨⟨h1, h2, h3, h4, h5, h6, h7, h8, h9⟩, hm⟩ := te_ok h
  rw [tv_is h, hp, if_pos rfl]
  omega
theorem de_lim {W M : Int} (hW : 0 ≤ W ∧ W ≤ 100000) (hM : 0 ≤ M ∧ M ≤ 100000) {t : S27} (h : te t = 0) (hL : 1 ≤ (de W M t).f2.f0) : lim (de W M t).f2.f0 (de W M t).f2.f1 = 0 := by
  unfold lim
  cases hp : t.f4 with
  | true =>
    have := tv_pin h hp
    have e : de W M t = ⟨⟨t.f0.f0, t.f0.f1⟩, true, ⟨tv t - W - M, tv t - W⟩⟩ := by unfold de; rw [if_pos hp]
    rw [e] at hL ⊢
    simp only at hL ⊢
    rw [if_pos (by omega), if_neg (by omega)]
  | false =>
    have := tv_hole h hp
    have e : de W M t = ⟨⟨t.f0.f0, t.f0.f1⟩, false, ⟨tv t + W, tv t + W + M⟩⟩ := by unfold de; rw [hp, if_neg Bool.false_ne_true]
    rw [e] at hL ⊢
    simp only at hL ⊢
    rw [if_pos (by omega), if_neg (by omega)]
theorem ge_de {W M : Int} (hW : 0 ≤ W ∧ W ≤ 100000) (hM : 0 ≤ M ∧ M ≤ 100000) : ∀ l : List S27, (∀ t ∈ l, te t = 0) → lowOk W M l = true → ge (l.map (de W M)) = 0
  | [], _, _ => rfl
  | t :: r, h, hL => by
    have h2 : (decide (1 ≤ (de W M t).f2.f0) && lowOk W M r) = true := hL
    rw [Bool.and_eq_true] at h2
    show ge (de W M t :: r.map (de W M)) = 0
    rw [ge_ok (de_lim hW hM (h t List.mem_cons_self) (of_decide_eq_true h2.1))]
    exact ge_de hW hM r (fun u hu => h u (List.mem_cons_of_mem _ hu)) h2.2
theorem mz_de {W M : Int} (hW : 0 ≤ W ∧ W ≤ 100000) (hM : 0 ≤ M ∧ M ≤ 100000) {l : List S27} (hn : l.length ≤ 16) (h : ∀ t ∈ l, te t = 0) (hL : lowOk W M l = true) : mz (l.map (de W M)) = 0 := by
  unfold mz
  rw [if_neg (by rw [List.length_map]; omega)]
  exact ge_de hW hM l h hL
/-- The tool of a right target. -/
def dt (high : Bool) (W M : Int) (t : S27) : S56 := mkt high (de W M t)
theorem dt_at (high : Bool) (W M : Int) (l : List S27) {i : Int} (h1 : i.toNat < l.length) : rd_T56 ((l.map (de W M)).map (mkt high)) i = dt high W M (rd_T27 l i) := by
  rw [List.map_map]
  exact getD_map (mkt high ∘ de W M) l z27 z56 h1
theorem dt_is (high : Bool) {W M : Int} (hW : 0 ≤ W) (hM : 0 ≤ M) (t : S27) : (dt high W M t).f0.f0 = t.f0.f0 ∧ (dt high W M t).f0.f1 = t.f0.f1 ∧ (dt high W M t).f1 = t.f4 ∧ (t.f4 = true → tv t - W - M ≤ (dt high W M t).f2 ∧ (dt high W M t).f2 ≤ tv t - W) ∧ (t.f4 = false → tv t + W ≤ (dt high W M t).f2 ∧ (dt high W M t).f2 ≤ tv t + W + M) := by
  unfold dt mkt
  cases hp : t.f4 with
  | true =>
    have e : de W M t = ⟨⟨t.f0.f0, t.f0.f1⟩, true, ⟨tv t - W - M, tv t - W⟩⟩ := by unfold de; rw [if_pos hp]
    rw [e]
    refine ⟨rfl, rfl, rfl, fun _ => ?_, fun h => absurd h (by decide)⟩
    cases high <;> simp <;> omega
  | false =>
    have e : de W M t = ⟨⟨t.f0.f0, t.f0.f1⟩, false, ⟨tv t + W, tv t + W + M⟩⟩ := by unfold de; rw [hp, if_neg Bool.false_ne_true]
    rw [e]
    refine ⟨rfl, rfl, rfl, fun h => absurd h (by decide), fun _ => ?_⟩
    cases high <;> simp <;> omega
end Go.Proofs.YtjemaonejkepcaaDoor.G
namespace Go.Proofs.YtjemaonejkepcaaDoor.B
open Go.RowKit Go.Proofs.YtjemaonejkepcaaDoorW.PrintWords Go.Proofs.YtjemaonejkepcaaDoorW.PrintLast Go.Proofs.YtjemaonejkepcaaDoorW.PrintMore
attribute [local go_sem] max2_int min2_int max_two min_two max_three min_three max_four min_four   -- for this text's walks alone
set_option linter.unusedVariables false
set_option linter.unusedSimpArgs false
def bonus_within.f (a0_0 : Int) (a0_1 : Int) (a0_2 : Int) (a0_3 : Int) (a0_4 : Int) (a0_5 : Int) (a0_6 : Bool) (a1 : Int) : Option (Bool) := if a1 ≥ a0_2 then (some (decide (a1 ≤ a0_3))) else (some false)
set_option maxHeartbeats 8000000 in
set_option maxRecDepth 100000 in
theorem bonus_within.calls (a0_0 : Int) (a0_1 : Int) (a0_2 : Int) (a0_3 : Int) (a0_4 : Int) (a0_5 : Int) (a0_6 : Bool) (a1 : Int) (r : Bool) (w : World) (h : bonus_within.f a0_0 a0_1 a0_2 a0_3 a0_4 a0_5 a0_6 a1 = some r) :
    Calls Tryd.prog 76 #[.agg #[.int .i64 a0_0, .int .i64 a0_1, .int .i64 a0_2, .int .i64 a0_3, .int .i64 a0_4, .int .i64 a0_5, .bool a0_6], .int .i64 a1] w fun e w' => e = .returned (.bool r) ∧ Below w.heap.size w w' := by
  have hu27 := Tryd.underlying27
  have HB := Aside0.mk (Below.refl w.heap.size w)
  have H : (if a1 ≥ a0_2 then (some (decide (a1 ≤ a0_3))) else (some false)) = some r := h
  clear h
  by_cases c3 : a1 ≥ a0_2
  · rw [if_pos c3] at H
    have c3b0 : decide (a0_2 ≤ a1) = true := decide_eq_true c3
    clear c3
    obtain rfl := Option.some.inj H
    go_enter Tryd.func76, Tryd.ntmps76
    go_wp2_with (first | ((with_reducible refine gate_dst (N := 2) rfl ?_); refine box_event ?hg (N := 2) ?hd (cs := #[.int .i64 a0_0, .int .i64 a0_1, .int .i64 a0_2, .int .i64 a0_3, .int .i64 a0_4, .int .i64 a0_5, .bool a0_6]) (t := 27) ?hr ?_; (case hd => rfl); (case hg => rfl); (case hr => first | (go_simp; done) | (go_simp; rfl)); intro gb147 hg w4 hbox hb; have n0_ := Aside0.mk (below_step (by repeat (first | (with_reducible first | exact HB.out | apply below_alloc | apply pw_below_drewN | apply below_drew1) | exact HB.out)) hb); have n1_ := Aside0.mk (hbox); have n2_ := Aside0.mk ((by rw [hg]; exact (below_size (by repeat (first | (with_reducible first | exact HB.out | apply below_alloc | apply pw_below_drewN | apply below_drew1) | exact HB.out))) : w.heap.size ≤ gb147)); have n3_ := Aside0.mk ((by rw [hg]; exact (below_size (by repeat (first | (with_reducible first | exact HB.out | apply below_alloc | apply pw_below_drewN | apply below_drew1) | exact HB.out))) : w.heap.size ≤ gb147)); clear HB; have HB := n0_; have BK147 := n1_; have GW147 := n2_; have GE147 := n3_; clear n0_ n1_ n2_ n3_; clear hb hbox hg; have hcz5_0 : w4.cell? ⟨gb147, 0, none⟩ = some (.int .i64 a0_0) := (blk_cell BK147.out 0).trans rfl; have hcz5_1 : w4.cell? ⟨gb147, 1, none⟩ = some (.int .i64 a0_1) := (blk_cell BK147.out 1).trans rfl; have hcz5_2 : w4.cell? ⟨gb147, 2, none⟩ = some (.int .i64 a0_2) := (blk_cell BK147.out 2).trans rfl; have hcz5_3 : w4.cell? ⟨gb147, 3, none⟩ = some (.int .i64 a0_3) := (blk_cell BK147.out 3).trans rfl; have hcz5_4 : w4.cell? ⟨gb147, 4, none⟩ = some (.int .i64 a0_4) := (blk_cell BK147.out 4).trans rfl; have hcz5_5 : w4.cell? ⟨gb147, 5, none⟩ = some (.int .i64 a0_5) := (blk_cell BK147.out 5).trans rfl; have hcz5_6 : w4.cell? ⟨gb147, 6, none⟩ = some (.bool a0_6) := (blk_cell BK147.out 6).trans rfl; have hfz5_0 := blk_frozen BK147.out 0; have hfz5_1 := blk_frozen BK147.out 1; have hfz5_2 := blk_frozen BK147.out 2; have hfz5_3 := blk_frozen BK147.out 3; have hfz5_4 := blk_frozen BK147.out 4; have hfz5_5 := blk_frozen BK147.out 5; have hfz5_6 := blk_frozen BK147.out 6))
    go_ret
    exact ⟨by first | rfl | (simp [errW_none, errW_some] <;> rfl) | (simp [*, errW_none, errW_some] <;> rfl), by repeat (first | (with_reducible first | exact HB.out | apply below_alloc | apply pw_below_drewN | apply below_drew1 | refine below_set ?_ GE147.out) | exact HB.out)⟩
  · rw [if_neg c3] at H
    have c3b0 : decide (a0_2 ≤ a1) = false := decide_eq_false c3
    clear c3
    obtain rfl := Option.some.inj H
    go_enter Tryd.func76, Tryd.ntmps76
    go_wp2_with (first | ((with_reducible refine gate_dst (N := 2) rfl ?_); refine box_event ?hg (N := 2) ?hd (cs := #[.int .i64 a0_0, .int .i64 a0_1, .int .i64 a0_2, .int .i64 a0_3, .int .i64 a0_4, .int .i64 a0_5, .bool a0_6]) (t := 27) ?hr ?_; (case hd => rfl); (case hg => rfl); (case hr => first | (go_simp; done) | (go_simp; rfl)); intro gb147 hg w6 hbox hb; have n0_ := Aside0.mk (below_step (by repeat (first | (with_reducible first | exact HB.out | apply below_alloc | apply pw_below_drewN | apply below_drew1) | exact HB.out)) hb); have n1_ := Aside0.mk (hbox); have n2_ := Aside0.mk ((by rw [hg]; exact (below_size (by repeat (first | (with_reducible first | exact HB.out | apply below_alloc | apply pw_below_drewN | apply below_drew1) | exact HB.out))) : w.heap.size ≤ gb147)); have n3_ := Aside0.mk ((by rw [hg]; exact (below_size (by repeat (first | (with_reducible first | exact HB.out | apply below_alloc | apply pw_below_drewN | apply below_drew1) | exact HB.out))) : w.heap.size ≤ gb147)); clear HB; have HB := n0_; have BK147 := n1_; have GW147 := n2_; have GE147 := n3_; clear n0_ n1_ n2_ n3_; clear hb hbox hg; have hcz7_0 : w6.cell? ⟨gb147, 0, none⟩ = some (.int .i64 a0_0) := (blk_cell BK147.out 0).trans rfl; have hcz7_1 : w6.cell? ⟨gb147, 1, none⟩ = some (.int .i64 a0_1) := (blk_cell BK147.out 1).trans rfl; have hcz7_2 : w6.cell? ⟨gb147, 2, none⟩ = some (.int .i64 a0_2) := (blk_cell BK147.out 2).trans rfl; have hcz7_3 : w6.cell? ⟨gb147, 3, none⟩ = some (.int .i64 a0_3) := (blk_cell BK147.out 3).trans rfl; have hcz7_4 : w6.cell? ⟨gb147, 4, none⟩ = some (.int .i64 a0_4) := (blk_cell BK147.out 4).trans rfl; have hcz7_5 : w6.cell? ⟨gb147, 5, none⟩ = some (.int .i64 a0_5) := (blk_cell BK147.out 5).trans rfl; have hcz7_6 : w6.cell? ⟨gb147, 6, none⟩ = some (.bool a0_6) := (blk_cell BK147.out 6).trans rfl; have hfz7_0 := blk_frozen BK147.out 0; have hfz7_1 := blk_frozen BK147.out 1; have hfz7_2 := blk_frozen BK147.out 2; have hfz7_3 := blk_frozen BK147.out 3; have hfz7_4 := blk_frozen BK147.out 4; have hfz7_5 := blk_frozen BK147.out 5; have hfz7_6 := blk_frozen BK147.out 6))
    go_ret
    exact ⟨by first | rfl | (simp [errW_none, errW_some] <;> rfl) | (simp [*, errW_none, errW_some] <;> rfl), by repeat (first | (with_reducible first | exact HB.out | apply below_alloc | apply pw_below_drewN | apply below_drew1 | refine below_set ?_ GE147.out) | exact HB.out)⟩
def bonus_condition_extra.f (a0_0 : Int) (a0_1 : Int) (a0_2 : Int) (a0_3 : Int) (a0_4 : Int) (a0_5 : Int) (a0_6 : Bool) (a0_7 : Int) (a1 : Int) : Option (Int) := if a0_5 = 0 then (some 0) else ((bonus_condition_end.f a0_0 a0_1 a0_2 a0_3 a0_4 a0_5 a0_6 a0_7 a0_7).bind fun t149 => (some (wrap64 (a0_7 * (wrap64 (t149 - a1))))))
def bonus_condition_extra.T3 : Bool × List (List Nat × List Nat) := (true, [([], []), ([0], [0]), ([], []), ([], []), ([3], [3]), ([2, 4], [2, 4]), ([], []), ([5, 6], [5, 6]), ([1, 7], [1, 7]), ([8, 5, 0, 1, 2, 3, 4, 5, 6, 7, 8], [8])])
def bonus_condition_extra.B3 : List Nat := [0, 1, 0, 0, 8, 28, 0, 124, 255, 511]
theorem bonus_condition_extra.tab3 : rtab .any (opsOf Tryd.f77 3) = bonus_condition_extra.T3 := by kernel_rfl
theorem bonus_condition_extra.bits3 : waitsOk bonus_condition_extra.T3.2 bonus_condition_extra.B3 = true := by kernel_rfl
set_option maxHeartbeats 8000000 in
set_option maxRecDepth 100000 in
theorem bonus_condition_extra.calls (a0_0 : Int) (a0_1 : Int) (a0_2 : Int) (a0_3 : Int) (a0_4 : Int) (a0_5 : Int) (a0_6 : Bool) (a0_7 : Int) (a1 : Int) (r : Int) (w : World) (h : bonus_condition_extra.f a0_0 a0_1 a0_2 a0_3 a0_4 a0_5 a0_6 a0_7 a1 = some r) :
    Calls Tryd.prog 77 #[.agg #[.int .i64 a0_0, .int .i64 a0_1, .int .i64 a0_2, .int .i64 a0_3, .int .i64 a0_4, .int .i64 a0_5, .bool a0_6, .int .i64 a0_7], .int .i64 a1] w fun e w' => e = .returned (.int .i64 r) ∧ Below w.heap.size w w' := by
  have hu113 := Tryd.underlying113
  have HB := Aside0.mk (Below.refl w.heap.size w)
  have H : (if a0_5 = 0 then (some 0) else ((bonus_condition_end.f a0_0 a0_1 a0_2 a0_3 a0_4 a0_5 a0_6 a0_7 a0_7).bind fun t149 => (some (wrap64 (a0_7 * (wrap64 (t149 - a1))))))) = some r := h
  clear h
  by_cases c3 : a0_5 = 0
  · rw [if_pos c3] at H
    have c3b0 : (a0_5 == 0) = true := beq_iff_eq.mpr c3
    have c3b1 : (a0_5 != 0) = false := bne_eq_false_iff_eq.mpr c3
    clear c3
    obtain rfl := Option.some.inj H
    go_enter Tryd.func77, Tryd.ntmps77
    go_wp2_with (first | ((with_reducible refine gate_dst (N := 2) rfl ?_); refine box_event ?hg (N := 2) ?hd (cs := #[.int .i64 a0_0, .int .i64 a0_1, .int .i64 a0_2, .int .i64 a0_3, .int .i64 a0_4, .int .i64 a0_5, .bool a0_6, .int .i64 a0_7]) (t := 113) ?hr ?_; (case hd => rfl); (case hg => rfl); (case hr => first | (go_simp; done) | (go_simp; rfl)); intro gb148 hg w4 hbox hb; have n0_ := Aside0.mk (below_step (by repeat (first | (with_reducible first | exact HB.out | apply below_alloc | apply pw_below_drewN | apply below_drew1) | exact HB.out)) hb); have n1_ := Aside0.mk (hbox); have n2_ := Aside0.mk ((by rw [hg]; exact (below_size (by repeat (first | (with_reducible first | exact HB.out | apply below_alloc | apply pw_below_drewN | apply below_drew1) | exact HB.out))) : w.heap.size ≤ gb148)); have n3_ := Aside0.mk ((by rw [hg]; exact (below_size (by repeat (first | (with_reducible first | exact HB.out | apply below_alloc | apply pw_below_drewN | apply below_drew1) | exact HB.out))) : w.heap.size ≤ gb148)); clear HB; have HB := n0_; have BK148 := n1_; have GW148 := n2_; have GE148 := n3_; clear n0_ n1_ n2_ n3_; clear hb hbox hg; have hcz5_0 : w4.cell? ⟨gb148, 0, none⟩ = some (.int .i64 a0_0) := (blk_cell BK148.out 0).trans rfl; have hcz5_1 : w4.cell? ⟨gb148, 1, none⟩ = some (.int .i64 a0_1) := (blk_cell BK148.out 1).trans rfl; have hcz5_2 : w4.cell? ⟨gb148, 2, none⟩ = some (.int .i64 a0_2) := (blk_cell BK148.out 2).trans rfl; have hcz5_3 : w4.cell? ⟨gb148, 3, none⟩ = some (.int .i64 a0_3) := (blk_cell BK148.out 3).trans rfl; have hcz5_4 : w4.cell? ⟨gb148, 4, none⟩ = some (.int .i64 a0_4) := (blk_cell BK148.out 4).trans rfl; have hcz5_5 : w4.cell? ⟨gb148, 5, none⟩ = some (.int .i64 a0_5) := (blk_cell BK148.out 5).trans rfl; have hcz5_6 : w4.cell? ⟨gb148, 6, none⟩ = some (.bool a0_6) := (blk_cell BK148.out 6).trans rfl; have hcz5_7 : w4.cell? ⟨gb148, 7, none⟩ = some (.int .i64 a0_7) := (blk_cell BK148.out 7).trans rfl; have hfz5_0 := blk_frozen BK148.out 0; have hfz5_1 := blk_frozen BK148.out 1; have hfz5_2 := blk_frozen BK148.out 2; have hfz5_3 := blk_frozen BK148.out 3; have hfz5_4 := blk_frozen BK148.out 4; have hfz5_5 := blk_frozen BK148.out 5; have hfz5_6 := blk_frozen BK148.out 6; have hfz5_7 := blk_frozen BK148.out 7))
    go_ret
    exact ⟨by first | rfl | (simp [errW_none, errW_some] <;> rfl) | (simp [*, errW_none, errW_some] <;> rfl), by repeat (first | (with_reducible first | exact HB.out | apply below_alloc | apply pw_below_drewN | apply below_drew1 | refine below_set ?_ GE148.out) | exact HB.out)⟩
  · rw [if_neg c3] at H
    have c3b0 : (a0_5 == 0) = false := beq_eq_false_iff_ne.mpr c3
    have c3b1 : (a0_5 != 0) = true := bne_iff_ne.mpr c3
    replace H := Option.bind_eq_some_iff.mp H
    obtain ⟨t149, A60, H⟩ := H
    replace H : (some (wrap64 (a0_7 * (wrap64 (t149 - a1))))) = some r := H
    have A6 := Aside0.mk A60
    clear A60
    obtain rfl := Option.some.inj H
    go_enter Tryd.func77, Tryd.ntmps77
    try go_wp2_with (first | ((with_reducible refine gate_dst (N := 2) rfl ?_); refine box_event ?hg (N := 2) ?hd (cs := #[.int .i64 a0_0, .int .i64 a0_1, .int .i64 a0_2, .int .i64 a0_3, .int .i64 a0_4, .int .i64 a0_5, .bool a0_6, .int .i64 a0_7]) (t := 113) ?hr ?_; (case hd => rfl); (case hg => rfl); (case hr => first | (go_simp; done) | (go_simp; rfl)); intro gb148 hg w7 hbox hb; have n0_ := Aside0.mk (below_step (by repeat (first | (with_reducible first | exact HB.out | apply below_alloc | apply pw_below_drewN | apply below_drew1) | exact HB.out)) hb); have n1_ := Aside0.mk (hbox); have n2_ := Aside0.mk ((by rw [hg]; exact (below_size (by repeat (first | (with_reducible first | exact HB.out | apply below_alloc | apply pw_below_drewN | apply below_drew1) | exact HB.out))) : w.heap.size ≤ gb148)); have n3_ := Aside0.mk ((by rw [hg]; exact (below_size (by repeat (first | (with_reducible first | exact HB.out | apply below_alloc | apply pw_below_drewN | apply below_drew1) | exact HB.out))) : w.heap.size ≤ gb148)); clear HB; have HB := n0_; have BK148 := n1_; have GW148 := n2_; have GE148 := n3_; clear n0_ n1_ n2_ n3_; clear hb hbox hg; have hcz8_0 : w7.cell? ⟨gb148, 0, none⟩ = some (.int .i64 a0_0) := (blk_cell BK148.out 0).trans rfl; have hcz8_1 : w7.cell? ⟨gb148, 1, none⟩ = some (.int .i64 a0_1) := (blk_cell BK148.out 1).trans rfl; have hcz8_2 : w7.cell? ⟨gb148, 2, none⟩ = some (.int .i64 a0_2) := (blk_cell BK148.out 2).trans rfl; have hcz8_3 : w7.cell? ⟨gb148, 3, none⟩ = some (.int .i64 a0_3) := (blk_cell BK148.out 3).trans rfl; have hcz8_4 : w7.cell? ⟨gb148, 4, none⟩ = some (.int .i64 a0_4) := (blk_cell BK148.out 4).trans rfl; have hcz8_5 : w7.cell? ⟨gb148, 5, none⟩ = some (.int .i64 a0_5) := (blk_cell BK148.out 5).trans rfl; have hcz8_6 : w7.cell? ⟨gb148, 6, none⟩ = some (.bool a0_6) := (blk_cell BK148.out 6).trans rfl; have hcz8_7 : w7.cell? ⟨gb148, 7, none⟩ = some (.int .i64 a0_7) := (blk_cell BK148.out 7).trans rfl; have hfz8_0 := blk_frozen BK148.out 0; have hfz8_1 := blk_frozen BK148.out 1; have hfz8_2 := blk_frozen BK148.out 2; have hfz8_3 := blk_frozen BK148.out 3; have hfz8_4 := blk_frozen BK148.out 4; have hfz8_5 := blk_frozen BK148.out 5; have hfz8_6 := blk_frozen BK148.out 6; have hfz8_7 := blk_frozen BK148.out 7))
    have n0_ := Aside0.mk (blk_drew BK148.out)
    have n1_ := Aside0.mk (below_drew1 HB.out)
    clear BK148
    clear HB
    have BK148 := n0_
    have HB := n1_
    clear n0_ n1_
    refine start_ (n := 10) (S := fun w' => w'.cell? ⟨gb148, 0, none⟩ = some (.int .i64 a0_0) ∧ w'.cell? ⟨gb148, 1, none⟩ = some (.int .i64 a0_1) ∧ w'.cell? ⟨gb148, 2, none⟩ = some (.int .i64 a0_2) ∧ w'.cell? ⟨gb148, 3, none⟩ = some (.int .i64 a0_3) ∧ w'.cell? ⟨gb148, 4, none⟩ = some (.int .i64 a0_4) ∧ w'.cell? ⟨gb148, 5, none⟩ = some (.int .i64 a0_5) ∧ w'.cell? ⟨gb148, 6, none⟩ = some (.bool a0_6) ∧ w'.cell? ⟨gb148, 7, none⟩ = some (.int .i64 a0_7)) (ds := []) #[false, false, false, false, false, false, false, false, false, false] (by kernel_rfl) rfl rfl ⟨(blk_cell BK148.out 0).trans rfl, (blk_cell BK148.out 1).trans rfl, (blk_cell BK148.out 2).trans rfl, (blk_cell BK148.out 3).trans rfl, (blk_cell BK148.out 4).trans rfl, (blk_cell BK148.out 5).trans rfl, (blk_cell BK148.out 6).trans rfl, (blk_cell BK148.out 7).trans rfl⟩ (fun hHeld => ?_); refine with_tabW bonus_condition_extra.tab3 bonus_condition_extra.bits3 (fun HT_ HW_ => ?_)
    generalize w7.drew = w9 at BK148 HB hHeld ⊢
    refine pure_ (i := 0) (N := some 9) (v := ?_) (a' := ?_) #[true, false, false, false, false, false, false, false, false, false] rfl rfl (any_of HT_.out (by kernel_rfl)) (fun _ _ _ h => h) (Or.inl ⟨by rfl, ?_⟩) ?_ ?_
    rotate_left
    · intro w'
      go_simp
      with_reducible rfl
    rotate_left
    · simp only [Act.put, List.setIfInBounds_toArray, List.set_cons_zero, List.set_cons_succ, i64_w, i32_w]
      rfl
    refine pure_ (i := 3) (N := some 12) (v := ?_) (a' := ?_) #[true, false, false, true, false, false, false, false, false, false] rfl rfl (any_of HT_.out (by kernel_rfl)) (fun _ _ _ h => h) (Or.inl ⟨by rfl, ?_⟩) ?_ ?_
    rotate_left
    · intro w'
      go_simp
      with_reducible rfl
    rotate_left
    · simp only [Act.put, List.setIfInBounds_toArray, List.set_cons_zero, List.set_cons_succ, i64_w, i32_w]
      rfl
    refine pure_ (i := 6) (N := some 15) (v := ?_) (a' := ?_) #[true, false, false, true, false, false, true, false, false, false] rfl rfl (any_of HT_.out (by kernel_rfl)) (fun _ _ _ h => h) (Or.inl ⟨by rfl, ?_⟩) ?_ ?_
    rotate_left
    · intro w'
      go_simp
      with_reducible rfl
    rotate_left
    · simp only [Act.put, List.setIfInBounds_toArray, List.set_cons_zero, List.set_cons_succ, i64_w, i32_w]
      rfl
    refine take_ (i := 1) (N := some 10) (v := ?_) (a' := ?_) #[true, true, false, true, false, false, true, false, false, false] rfl rfl (take_ofW HT_.out HW_.out (by kernel_rfl)) (fun _ _ _ h => h) (Or.inl ⟨by rfl, ?_⟩) hHeld ?_ ?_
    rotate_left
    · rintro w' ⟨s0, s1, s2, s3, s4, s5, s6, s7⟩
      go_simp
      with_reducible rfl
    rotate_left
    · simp only [Act.put, List.setIfInBounds_toArray, List.set_cons_zero, List.set_cons_succ, i64_w, i32_w]
      rfl
    refine take_ (i := 2) (N := some 11) (v := ?_) (a' := ?_) #[true, true, true, true, false, false, true, false, false, false] rfl rfl (take_ofW HT_.out HW_.out (by kernel_rfl)) (fun _ _ _ h => h) (Or.inl ⟨by rfl, ?_⟩) hHeld ?_ ?_
    rotate_left
    · rintro w' ⟨s0, s1, s2, s3, s4, s5, s6, s7⟩
      go_simp
      with_reducible rfl
    rotate_left
    · simp only [Act.put, List.setIfInBounds_toArray, List.set_cons_zero, List.set_cons_succ, i64_w, i32_w]
      rfl
    refine take_ (i := 4) (N := some 13) (v := ?_) (a' := ?_) #[true, true, true, true, true, false, true, false, false, false] rfl rfl (take_ofW HT_.out HW_.out (by kernel_rfl)) (fun _ _ _ h => h) (Or.inl ⟨by rfl, ?_⟩) hHeld ?_ ?_
    rotate_left
    · rintro w' ⟨s0, s1, s2, s3, s4, s5, s6, s7⟩
      go_simp
      with_reducible rfl
    rotate_left
    · simp only [Act.put, List.setIfInBounds_toArray, List.set_cons_zero, List.set_cons_succ, i64_w, i32_w]
      rfl
    refine one_ (i := 5) (N := some 14) #[true, true, true, true, true, true, true, false, false, false] rfl rfl (one_of HT_.out (by kernel_rfl)) (by decide) (fun K hK => ?_)
    refine goes_ Tryd.func68 (by kernel_rfl) rfl #[.agg #[.int .i64 a0_0, .int .i64 a0_1, .int .i64 a0_2, .int .i64 a0_3, .int .i64 a0_4, .int .i64 a0_5, .bool a0_6, .int .i64 a0_7], .int .i64 a0_7] (by rfl) rfl rfl (by (try simp only [List.map_toArray, List.map_cons, List.map_nil]); first | done | rfl | (simp only [List.length_drop, List.length_take]; rfl)) ?_
    with_reducible refine (bonus_condition_end.calls a0_0 a0_1 a0_2 a0_3 a0_4 a0_5 a0_6 a0_7 a0_7 t149 _ A6.out).mono ?_
    rintro e w10 ⟨rfl, hb⟩
    refine ⟨_, rfl, ?_⟩
    have n0_ := Aside0.mk (blk_below (g := gb148) (o := .cells #[.int .i64 a0_0, .int .i64 a0_1, .int .i64 a0_2, .int .i64 a0_3, .int .i64 a0_4, .int .i64 a0_5, .bool a0_6, .int .i64 a0_7] 113 (0, 0)) (by (with_reducible repeat (first | refine blk_drewN ?_ _ | refine blk_drew ?_ | refine blk_alloc ?_ _)); exact BK148.out) hb)
    have n1_ := Aside0.mk (below_step (by repeat (first | (with_reducible first | exact HB.out | apply below_alloc | apply pw_below_drewN | apply below_drew1 | refine below_set ?_ GE148.out) | exact HB.out)) hb)
    clear BK148
    clear HB
    have BK148 := n0_
    have HB := n1_
    clear n0_ n1_
    (try clear hb)
    (try clear hb2)
    (try clear hk)
    (try clear hi)
    refine hK.out _ _ ⟨(blk_cell BK148.out 0).trans rfl, (blk_cell BK148.out 1).trans rfl, (blk_cell BK148.out 2).trans rfl, (blk_cell BK148.out 3).trans rfl, (blk_cell BK148.out 4).trans rfl, (blk_cell BK148.out 5).trans rfl, (blk_cell BK148.out 6).trans rfl, (blk_cell BK148.out 7).trans rfl⟩ (fun hHeld => ?_)
    clear hK K
    refine norm_ (a' := ?_) ?_ ?_
    rotate_left
    · show Act.put _ (some 14) _ = _
      simp only [Act.put, List.setIfInBounds_toArray, List.set_cons_zero, List.set_cons_succ, i64_w, i32_w]
      rfl
    refine pure_ (i := 7) (N := some 16) (v := ?_) (a' := ?_) #[true, true, true, true, true, true, true, true, false, false] rfl rfl (any_of HT_.out (by kernel_rfl)) (fun _ _ _ h => h) (Or.inl ⟨by rfl, ?_⟩) ?_ ?_
    rotate_left
    · intro w'
      go_simp
      with_reducible rfl
    rotate_left
    · simp only [Act.put, List.setIfInBounds_toArray, List.set_cons_zero, List.set_cons_succ, i64_w, i32_w]
      rfl
    refine pure_ (i := 8) (N := some 17) (v := ?_) (a' := ?_) #[true, true, true, true, true, true, true, true, true, false] rfl rfl (any_of HT_.out (by kernel_rfl)) (fun _ _ _ h => h) (Or.inl ⟨by rfl, ?_⟩) ?_ ?_
    rotate_left
    · intro w'
      go_simp
      with_reducible rfl
    rotate_left
    · simp only [Act.put, List.setIfInBounds_toArray, List.set_cons_zero, List.set_cons_succ, i64_w, i32_w]
      rfl
    refine pure_ (i := 9) (N := some 4) (v := ?_) (a' := ?_) #[true, true, true, true, true, true, true, true, true, true] rfl rfl (any_of HT_.out (by kernel_rfl)) (fun _ _ _ h => h) (Or.inl ⟨by rfl, ?_⟩) ?_ ?_
    rotate_left
    · intro w'
      go_simp
      with_reducible rfl
    rotate_left
    · simp only [Act.put, List.setIfInBounds_toArray, List.set_cons_zero, List.set_cons_succ, i64_w, i32_w]
      rfl
    refine done_ (done_of HT_.out (by kernel_rfl)) ?_
    try go_wp2
    go_ret
    exact ⟨by first | rfl | (simp [errW_none, errW_some] <;> rfl) | (simp [*, errW_none, errW_some] <;> rfl), by repeat (first | (with_reducible first | exact HB.out | apply below_alloc | apply pw_below_drewN | apply below_drew1 | refine below_set ?_ GE148.out) | exact HB.out)⟩
end Go.Proofs.YtjemaonejkepcaaDoor.B
namespace Go.Proofs.YtjemaonejkepcaaDoor.B
open Go.RowKit Go.Proofs.YtjemaonejkepcaaDoorW.PrintWords Go.Proofs.YtjemaonejkepcaaDoorW.PrintLast Go.Proofs.YtjemaonejkepcaaDoorW.PrintMore
attribute [local go_sem] max2_int min2_int max_two min_two max_three min_three max_four min_four   -- for this text's walks alone
set_option linter.unusedVariables false
set_option linter.unusedSimpArgs false
def metrolabref44_Inside.f (a0_0 : Int) (a0_1 : Int) (a0_2 : Int) (a0_3 : Int) (a0_4 : Int) (a0_5 : Int) (a0_6 : Bool) (a1 : Int) : Option (Bool) := if a1 ≥ a0_2 then (some (decide (a1 ≤ a0_3))) else (some false)
set_option maxHeartbeats 8000000 in
set_option maxRecDepth 100000 in
theorem metrolabref44_Inside.calls (a0_0 : Int) (a0_1 : Int) (a0_2 : Int) (a0_3 : Int) (a0_4 : Int) (a0_5 : Int) (a0_6 : Bool) (a1 : Int) (r : Bool) (w : World) (h : metrolabref44_Inside.f a0_0 a0_1 a0_2 a0_3 a0_4 a0_5 a0_6 a1 = some r) :
    Calls Tryd.prog 44 #[.agg #[.int .i64 a0_0, .int .i64 a0_1, .int .i64 a0_2, .int .i64 a0_3, .int .i64 a0_4, .int .i64 a0_5, .bool a0_6], .int .i64 a1] w fun e w' => e = .returned (.bool r) ∧ Below w.heap.size w w' := by
  have hu27 := Tryd.underlying27
  have HB := Aside0.mk (Below.refl w.heap.size w)
  have H : (if a1 ≥ a0_2 then (some (decide (a1 ≤ a0_3))) else (some false)) = some r := h
  clear h
  by_cases c3 : a1 ≥ a0_2
  · rw [if_pos c3] at H
    have c3b0 : decide (a0_2 ≤ a1) = true := decide_eq_true c3
    clear c3
    obtain rfl := Option.some.inj H
    go_enter Tryd.func44, Tryd.ntmps44
    go_wp2_with (first | ((with_reducible refine gate_dst (N := 2) rfl ?_); refine box_event ?hg (N := 2) ?hd (cs := #[.int .i64 a0_0, .int .i64 a0_1, .int .i64 a0_2, .int .i64 a0_3, .int .i64 a0_4, .int .i64 a0_5, .bool a0_6]) (t := 27) ?hr ?_; (case hd => rfl); (case hg => rfl); (case hr => first | (go_simp; done) | (go_simp; rfl)); intro gb221 hg w4 hbox hb; have n0_ := Aside0.mk (below_step (by repeat (first | (with_reducible first | exact HB.out | apply below_alloc | apply pw_below_drewN | apply below_drew1) | exact HB.out)) hb); have n1_ := Aside0.mk (hbox); have n2_ := Aside0.mk ((by rw [hg]; exact (below_size (by repeat (first | (with_reducible first | exact HB.out | apply below_alloc | apply pw_below_drewN | apply below_drew1) | exact HB.out))) : w.heap.size ≤ gb221)); have n3_ := Aside0.mk ((by rw [hg]; exact (below_size (by repeat (first | (with_reducible first | exact HB.out | apply below_alloc | apply pw_below_drewN | apply below_drew1) | exact HB.out))) : w.heap.size ≤ gb221)); clear HB; have HB := n0_; have BK221 := n1_; have GW221 := n2_; have GE221 := n3_; clear n0_ n1_ n2_ n3_; clear hb hbox hg; have hcz5_0 : w4.cell? ⟨gb221, 0, none⟩ = some (.int .i64 a0_0) := (blk_cell BK221.out 0).trans rfl; have hcz5_1 : w4.cell? ⟨gb221, 1, none⟩ = some (.int .i64 a0_1) := (blk_cell BK221.out 1).trans rfl; have hcz5_2 : w4.cell? ⟨gb221, 2, none⟩ = some (.int .i64 a0_2) := (blk_cell BK221.out 2).trans rfl; have hcz5_3 : w4.cell? ⟨gb221, 3, none⟩ = some (.int .i64 a0_3) := (blk_cell BK221.out 3).trans rfl; have hcz5_4 : w4.cell? ⟨gb221, 4, none⟩ = some (.int .i64 a0_4) := (blk_cell BK221.out 4).trans rfl; have hcz5_5 : w4.cell? ⟨gb221, 5, none⟩ = some (.int .i64 a0_5) := (blk_cell BK221.out 5).trans rfl; have hcz5_6 : w4.cell? ⟨gb221, 6, none⟩ = some (.bool a0_6) := (blk_cell BK221.out 6).trans rfl; have hfz5_0 := blk_frozen BK221.out 0; have hfz5_1 := blk_frozen BK221.out 1; have hfz5_2 := blk_frozen BK221.out 2; have hfz5_3 := blk_frozen BK221.out 3; have hfz5_4 := blk_frozen BK221.out 4; have hfz5_5 := blk_frozen BK221.out 5; have hfz5_6 := blk_frozen BK221.out 6))
    go_ret
    exact ⟨by first | rfl | (simp [errW_none, errW_some] <;> rfl) | (simp [*, errW_none, errW_some] <;> rfl), by repeat (first | (with_reducible first | exact HB.out | apply below_alloc | apply pw_below_drewN | apply below_drew1 | refine below_set ?_ GE221.out) | exact HB.out)⟩
  · rw [if_neg c3] at H
    have c3b0 : decide (a0_2 ≤ a1) = false := decide_eq_false c3
    clear c3
    obtain rfl := Option.some.inj H
    go_enter Tryd.func44, Tryd.ntmps44
    go_wp2_with (first | ((with_reducible refine gate_dst (N := 2) rfl ?_); refine box_event ?hg (N := 2) ?hd (cs := #[.int .i64 a0_0, .int .i64 a0_1, .int .i64 a0_2, .int .i64 a0_3, .int .i64 a0_4, .int .i64 a0_5, .bool a0_6]) (t := 27) ?hr ?_; (case hd => rfl); (case hg => rfl); (case hr => first | (go_simp; done) | (go_simp; rfl)); intro gb221 hg w6 hbox hb; have n0_ := Aside0.mk (below_step (by repeat (first | (with_reducible first | exact HB.out | apply below_alloc | apply pw_below_drewN | apply below_drew1) | exact HB.out)) hb); have n1_ := Aside0.mk (hbox); have n2_ := Aside0.mk ((by rw [hg]; exact (below_size (by repeat (first | (with_reducible first | exact HB.out | apply below_alloc | apply pw_below_drewN | apply below_drew1) | exact HB.out))) : w.heap.size ≤ gb221)); have n3_ := Aside0.mk ((by rw [hg]; exact (below_size (by repeat (first | (with_reducible first | exact HB.out | apply below_alloc | apply pw_below_drewN | apply below_drew1) | exact HB.out))) : w.heap.size ≤ gb221)); clear HB; have HB := n0_; have BK221 := n1_; have GW221 := n2_; have GE221 := n3_; clear n0_ n1_ n2_ n3_; clear hb hbox hg; have hcz7_0 : w6.cell? ⟨gb221, 0, none⟩ = some (.int .i64 a0_0) := (blk_cell BK221.out 0).trans rfl; have hcz7_1 : w6.cell? ⟨gb221, 1, none⟩ = some (.int .i64 a0_1) := (blk_cell BK221.out 1).trans rfl; have hcz7_2 : w6.cell? ⟨gb221, 2, none⟩ = some (.int .i64 a0_2) := (blk_cell BK221.out 2).trans rfl; have hcz7_3 : w6.cell? ⟨gb221, 3, none⟩ = some (.int .i64 a0_3) := (blk_cell BK221.out 3).trans rfl; have hcz7_4 : w6.cell? ⟨gb221, 4, none⟩ = some (.int .i64 a0_4) := (blk_cell BK221.out 4).trans rfl; have hcz7_5 : w6.cell? ⟨gb221, 5, none⟩ = some (.int .i64 a0_5) := (blk_cell BK221.out 5).trans rfl; have hcz7_6 : w6.cell? ⟨gb221, 6, none⟩ = some (.bool a0_6) := (blk_cell BK221.out 6).trans rfl; have hfz7_0 := blk_frozen BK221.out 0; have hfz7_1 := blk_frozen BK221.out 1; have hfz7_2 := blk_frozen BK221.out 2; have hfz7_3 := blk_frozen BK221.out 3; have hfz7_4 := blk_frozen BK221.out 4; have hfz7_5 := blk_frozen BK221.out 5; have hfz7_6 := blk_frozen BK221.out 6))
    go_ret
    exact ⟨by first | rfl | (simp [errW_none, errW_some] <;> rfl) | (simp [*, errW_none, errW_some] <;> rfl), by repeat (first | (with_reducible first | exact HB.out | apply below_alloc | apply pw_below_drewN | apply below_drew1 | refine below_set ?_ GE221.out) | exact HB.out)⟩
end Go.Proofs.YtjemaonejkepcaaDoor.B
namespace Go.Proofs.YtjemaonejkepcaaDoor.B
open Go.RowKit
theorem bwithin (x y lo hi tol mat : Int) (pin : Bool) (n : Int) : bonus_within.f x y lo hi tol mat pin n = some (decide (lo ≤ n ∧ n ≤ hi)) := by
  unfold bonus_within.f
  by_cases h : n ≥ lo
  · rw [if_pos h]; simp; omega
  · rw [if_neg h]; simp; omega
theorem rinside (x y lo hi tol mat : Int) (pin : Bool) (n : Int) : metrolabref44_Inside.f x y lo hi tol mat pin n = some (decide (lo ≤ n ∧ n ≤ hi)) := bwithin x y lo hi tol mat pin n
theorem side_same {mat : Int} {pin : Bool} (h0 : 0 ≤ mat) (h2 : mat ≤ 2) (hm : mat ≠ 0) : ((mat == 1) != pin) = ((mat == 2) == pin) := by
  have : mat = 1 ∨ mat = 2 := by omega
  rcases this with rfl | rfl <;> cases pin <;> rfl
theorem bextra {x y lo hi tol mat : Int} {pin : Bool} {n : Int} (h : Okt x y lo hi tol mat pin) (hn : -200000 ≤ n ∧ n ≤ 200000) : bonus_condition_extra.f x y lo hi tol mat pin (sgn mat pin) n = some (ext lo hi mat pin n) := by
  obtain ⟨_, _, h1, h2, h3, h4, h5, _, h6, h7⟩ := h
  unfold bonus_condition_extra.f ext
  by_cases hm : mat = 0
  · rw [if_pos hm, if_pos hm]
  · rw [if_neg hm, if_neg hm, side_same h6 h7 hm]
    simp only [bonus_condition_end.f, sgn_eq]
    by_cases hs : ((mat == 2) == pin) = true
    · simp only [if_pos hs]; rw [if_pos (by omega)]; simp only [Option.bind_some]; rw [w64 (n := lo - n) (by omega), w64 (by omega)]; congr 1; omega
    · simp only [if_neg hs]; rw [if_neg (by omega)]; simp only [Option.bind_some]; rw [w64 (n := hi - n) (by omega), w64 (by omega)]; congr 1; omega
end Go.Proofs.YtjemaonejkepcaaDoor.B
namespace Go.Proofs.YtjemaonejkepcaaDoor.B
open Go.RowKit Go.Proofs.YtjemaonejkepcaaDoorW.PrintWords Go.Proofs.YtjemaonejkepcaaDoorW.PrintLast Go.Proofs.YtjemaonejkepcaaDoorW.PrintMore
attribute [local go_sem] max2_int min2_int max_two min_two max_three min_three max_four min_four   -- for this text's walks alone
set_option linter.unusedVariables false
set_option linter.unusedSimpArgs false
def bonus_ring.f (a0_0 : Int) (a0_1 : Int) (a0_2 : Int) : Option (Int) := (bonus_in.f a0_0).bind fun t166 => (if t166 = true then ((bonus_in.f a0_1).bind fun t167 => (if t167 = true then ((bonus_size.f a0_2).bind fun t168 => (if t168 = true then (some 0) else (some 2))) else (some 2))) else (some 2))
set_option maxHeartbeats 8000000 in
set_option maxRecDepth 100000 in
theorem bonus_ring.calls (a0_0 : Int) (a0_1 : Int) (a0_2 : Int) (r : Int) (w : World) (h : bonus_ring.f a0_0 a0_1 a0_2 = some r) :
    Calls Tryd.prog 100 #[.agg #[.int .i64 a0_0, .int .i64 a0_1, .int .i64 a0_2]] w fun e w' => e = .returned (.int .i64 r) ∧ Below w.heap.size w w' := by
  have hu68 := Tryd.underlying68
  have HB := Aside0.mk (Below.refl w.heap.size w)
  have H : ((bonus_in.f a0_0).bind fun t166 => (if t166 = true then ((bonus_in.f a0_1).bind fun t167 => (if t167 = true then ((bonus_size.f a0_2).bind fun t168 => (if t168 = true then (some 0) else (some 2))) else (some 2))) else (some 2))) = some r := h
  clear h
  replace H := Option.bind_eq_some_iff.mp H
  obtain ⟨t166, A20, H⟩ := H
  replace H : (if t166 = true then ((bonus_in.f a0_1).bind fun t167 => (if t167 = true then ((bonus_size.f a0_2).bind fun t168 => (if t168 = true then (some 0) else (some 2))) else (some 2))) else (some 2)) = some r := H
  have A2 := Aside0.mk A20
  clear A20
  by_cases c3 : t166 = true
  · subst c3
    have H1 : ((bonus_in.f a0_1).bind fun t167 => (if t167 = true then ((bonus_size.f a0_2).bind fun t168 => (if t168 = true then (some 0) else (some 2))) else (some 2))) = some r := by rw [if_pos rfl] at H; exact H
    clear H
    have H := H1
    clear H1
    replace H := Option.bind_eq_some_iff.mp H
    obtain ⟨t167, A40, H⟩ := H
    replace H : (if t167 = true then ((bonus_size.f a0_2).bind fun t168 => (if t168 = true then (some 0) else (some 2))) else (some 2)) = some r := H
    have A4 := Aside0.mk A40
    clear A40
    by_cases c5 : t167 = true
    · subst c5
      have H1 : ((bonus_size.f a0_2).bind fun t168 => (if t168 = true then (some 0) else (some 2))) = some r := by rw [if_pos rfl] at H; exact H
      clear H
      have H := H1
      clear H1
      replace H := Option.bind_eq_some_iff.mp H
      obtain ⟨t168, A60, H⟩ := H
      replace H : (if t168 = true then (some 0) else (some 2)) = some r := H
      have A6 := Aside0.mk A60
      clear A60
      by_cases c7 : t168 = true
      · subst c7
        have H1 : (some 0) = some r := by rw [if_pos rfl] at H; exact H
        clear H
        have H := H1
        clear H1
        obtain rfl := Option.some.inj H
        go_enter Tryd.func100, Tryd.ntmps100
        go_wp2_with (first | ((with_reducible refine gate_dst (N := 1) rfl ?_); refine box_event ?hg (N := 1) ?hd (cs := #[.int .i64 a0_0, .int .i64 a0_1, .int .i64 a0_2]) (t := 68) ?hr ?_; (case hd => rfl); (case hg => rfl); (case hr => first | (go_simp; done) | (go_simp; rfl)); intro gb165 hg w8 hbox hb; have n0_ := Aside0.mk (below_step (by repeat (first | (with_reducible first | exact HB.out | apply below_alloc | apply pw_below_drewN | apply below_drew1) | exact HB.out)) hb); have n1_ := Aside0.mk (hbox); have n2_ := Aside0.mk ((by rw [hg]; exact (below_size (by repeat (first | (with_reducible first | exact HB.out | apply below_alloc | apply pw_below_drewN | apply below_drew1) | exact HB.out))) : w.heap.size ≤ gb165)); have n3_ := Aside0.mk ((by rw [hg]; exact (below_size (by repeat (first | (with_reducible first | exact HB.out | apply below_alloc | apply pw_below_drewN | apply below_drew1) | exact HB.out))) : w.heap.size ≤ gb165)); clear HB; have HB := n0_; have BK165 := n1_; have GW165 := n2_; have GE165 := n3_; clear n0_ n1_ n2_ n3_; clear hb hbox hg; have hcz9_0 : w8.cell? ⟨gb165, 0, none⟩ = some (.int .i64 a0_0) := (blk_cell BK165.out 0).trans rfl; have hcz9_1 : w8.cell? ⟨gb165, 1, none⟩ = some (.int .i64 a0_1) := (blk_cell BK165.out 1).trans rfl; have hcz9_2 : w8.cell? ⟨gb165, 2, none⟩ = some (.int .i64 a0_2) := (blk_cell BK165.out 2).trans rfl; have hfz9_0 := blk_frozen BK165.out 0; have hfz9_1 := blk_frozen BK165.out 1; have hfz9_2 := blk_frozen BK165.out 2) | ((with_reducible refine gate_callee (f := 71) rfl ?_); refine goesL_ (some 6) rfl rfl Tryd.func71 (by kernel_rfl) rfl #[.int .i64 a0_0] rfl (by (try simp only [List.map_toArray, List.map_cons, List.map_nil]); first | done | rfl | (simp only [List.length_drop, List.length_take]; rfl)) ?_; (with_reducible refine (bonus_in.calls a0_0 true _ A2.out).mono ?_); rintro e w' ⟨rfl, ⟨nd, rfl⟩⟩; refine ⟨_, rfl, ?_⟩) | (go_at_call 71; (with_reducible refine (bonus_in.calls a0_1 true _ A4.out).mono ?_); rintro e w' ⟨rfl, ⟨nd, rfl⟩⟩) | (go_at_call 72; (with_reducible refine (bonus_size.calls a0_2 true _ A6.out).mono ?_); rintro e w' ⟨rfl, ⟨nd, rfl⟩⟩))
        go_ret
        exact ⟨by first | rfl | (simp [errW_none, errW_some] <;> rfl) | (simp [*, errW_none, errW_some] <;> rfl), by repeat (first | (with_reducible first | exact HB.out | apply below_alloc | apply pw_below_drewN | apply below_drew1 | refine below_set ?_ GE165.out) | exact HB.out)⟩
      · replace c7 := Bool.eq_false_iff.mpr c7
        subst c7
        have H1 : (some 2) = some r := by rw [if_neg (show ¬ (false = true) by decide)] at H; exact H
        clear H
        have H := H1
        clear H1
        obtain rfl := Option.some.inj H
        go_enter Tryd.func100, Tryd.ntmps100
        go_wp2_with (first | ((with_reducible refine gate_dst (N := 1) rfl ?_); refine box_event ?hg (N := 1) ?hd (cs := #[.int .i64 a0_0, .int .i64 a0_1, .int .i64 a0_2]) (t := 68) ?hr ?_; (case hd => rfl); (case hg => rfl); (case hr => first | (go_simp; done) | (go_simp; rfl)); intro gb165 hg w10 hbox hb; have n0_ := Aside0.mk (below_step (by repeat (first | (with_reducible first | exact HB.out | apply below_alloc | apply pw_below_drewN | apply below_drew1) | exact HB.out)) hb); have n1_ := Aside0.mk (hbox); have n2_ := Aside0.mk ((by rw [hg]; exact (below_size (by repeat (first | (with_reducible first | exact HB.out | apply below_alloc | apply pw_below_drewN | apply below_drew1) | exact HB.out))) : w.heap.size ≤ gb165)); have n3_ := Aside0.mk ((by rw [hg]; exact (below_size (by repeat (first | (with_reducible first | exact HB.out | apply below_alloc | apply pw_below_drewN | apply below_drew1) | exact HB.out))) : w.heap.size ≤ gb165)); clear HB; have HB := n0_; have BK165 := n1_; have GW165 := n2_; have GE165 := n3_; clear n0_ n1_ n2_ n3_; clear hb hbox hg; have hcz11_0 : w10.cell? ⟨gb165, 0, none⟩ = some (.int .i64 a0_0) := (blk_cell BK165.out 0).trans rfl; have hcz11_1 : w10.cell? ⟨gb165, 1, none⟩ = some (.int .i64 a0_1) := (blk_cell BK165.out 1).trans rfl; have hcz11_2 : w10.cell? ⟨gb165, 2, none⟩ = some (.int .i64 a0_2) := (blk_cell BK165.out 2).trans rfl; have hfz11_0 := blk_frozen BK165.out 0; have hfz11_1 := blk_frozen BK165.out 1; have hfz11_2 := blk_frozen BK165.out 2) | ((with_reducible refine gate_callee (f := 71) rfl ?_); refine goesL_ (some 6) rfl rfl Tryd.func71 (by kernel_rfl) rfl #[.int .i64 a0_0] rfl (by (try simp only [List.map_toArray, List.map_cons, List.map_nil]); first | done | rfl | (simp only [List.length_drop, List.length_take]; rfl)) ?_; (with_reducible refine (bonus_in.calls a0_0 true _ A2.out).mono ?_); rintro e w' ⟨rfl, ⟨nd, rfl⟩⟩; refine ⟨_, rfl, ?_⟩) | (go_at_call 71; (with_reducible refine (bonus_in.calls a0_1 true _ A4.out).mono ?_); rintro e w' ⟨rfl, ⟨nd, rfl⟩⟩) | (go_at_call 72; (with_reducible refine (bonus_size.calls a0_2 false _ A6.out).mono ?_); rintro e w' ⟨rfl, ⟨nd, rfl⟩⟩))
        go_ret
        exact ⟨by first | rfl | (simp [errW_none, errW_some] <;> rfl) | (simp [*, errW_none, errW_some] <;> rfl), by repeat (first | (with_reducible first | exact HB.out | apply below_alloc | apply pw_below_drewN | apply below_drew1 | refine below_set ?_ GE165.out) | exact HB.out)⟩
    · replace c5 := Bool.eq_false_iff.mpr c5
      subst c5
      have H1 : (some 2) = some r := by rw [if_neg (show ¬ (false = true) by decide)] at H; exact H
      clear H
      have H := H1
      clear H1
      obtain rfl := Option.some.inj H
      go_enter Tryd.func100, Tryd.ntmps100
      go_wp2_with (first | ((with_reducible refine gate_dst (N := 1) rfl ?_); refine box_event ?hg (N := 1) ?hd (cs := #[.int .i64 a0_0, .int .i64 a0_1, .int .i64 a0_2]) (t := 68) ?hr ?_; (case hd => rfl); (case hg => rfl); (case hr => first | (go_simp; done) | (go_simp; rfl)); intro gb165 hg w12 hbox hb; have n0_ := Aside0.mk (below_step (by repeat (first | (with_reducible first | exact HB.out | apply below_alloc | apply pw_below_drewN | apply below_drew1) | exact HB.out)) hb); have n1_ := Aside0.mk (hbox); have n2_ := Aside0.mk ((by rw [hg]; exact (below_size (by repeat (first | (with_reducible first | exact HB.out | apply below_alloc | apply pw_below_drewN | apply below_drew1) | exact HB.out))) : w.heap.size ≤ gb165)); have n3_ := Aside0.mk ((by rw [hg]; exact (below_size (by repeat (first | (with_reducible first | exact HB.out | apply below_alloc | apply pw_below_drewN | apply below_drew1) | exact HB.out))) : w.heap.size ≤ gb165)); clear HB; have HB := n0_; have BK165 := n1_; have GW165 := n2_; have GE165 := n3_; clear n0_ n1_ n2_ n3_; clear hb hbox hg; have hcz13_0 : w12.cell? ⟨gb165, 0, none⟩ = some (.int .i64 a0_0) := (blk_cell BK165.out 0).trans rfl; have hcz13_1 : w12.cell? ⟨gb165, 1, none⟩ = some (.int .i64 a0_1) := (blk_cell BK165.out 1).trans rfl; have hcz13_2 : w12.cell? ⟨gb165, 2, none⟩ = some (.int .i64 a0_2) := (blk_cell BK165.out 2).trans rfl; have hfz13_0 := blk_frozen BK165.out 0; have hfz13_1 := blk_frozen BK165.out 1; have hfz13_2 := blk_frozen BK165.out 2) | ((with_reducible refine gate_callee (f := 71) rfl ?_); refine goesL_ (some 6) rfl rfl Tryd.func71 (by kernel_rfl) rfl #[.int .i64 a0_0] rfl (by (try simp only [List.map_toArray, List.map_cons, List.map_nil]); first | done | rfl | (simp only [List.length_drop, List.length_take]; rfl)) ?_; (with_reducible refine (bonus_in.calls a0_0 true _ A2.out).mono ?_); rintro e w' ⟨rfl, ⟨nd, rfl⟩⟩; refine ⟨_, rfl, ?_⟩) | (go_at_call 71; (with_reducible refine (bonus_in.calls a0_1 false _ A4.out).mono ?_); rintro e w' ⟨rfl, ⟨nd, rfl⟩⟩))
      go_ret
      exact ⟨by first | rfl | (simp [errW_none, errW_some] <;> rfl) | (simp [*, errW_none, errW_some] <;> rfl), by repeat (first | (with_reducible first | exact HB.out | apply below_alloc | apply pw_below_drewN | apply below_drew1 | refine below_set ?_ GE165.out) | exact HB.out)⟩
  · replace c3 := Bool.eq_false_iff.mpr c3
    subst c3
    have H1 : (some 2) = some r := by rw [if_neg (show ¬ (false = true) by decide)] at H; exact H
    clear H
    have H := H1
    clear H1
    obtain rfl := Option.some.inj H
    go_enter Tryd.func100, Tryd.ntmps100
    go_wp2_with (first | ((with_reducible refine gate_dst (N := 1) rfl ?_); refine box_event ?hg (N := 1) ?hd (cs := #[.int .i64 a0_0, .int .i64 a0_1, .int .i64 a0_2]) (t := 68) ?hr ?_; (case hd => rfl); (case hg => rfl); (case hr => first | (go_simp; done) | (go_simp; rfl)); intro gb165 hg w14 hbox hb; have n0_ := Aside0.mk (below_step (by repeat (first | (with_reducible first | exact HB.out | apply below_alloc | apply pw_below_drewN | apply below_drew1) | exact HB.out)) hb); have n1_ := Aside0.mk (hbox); have n2_ := Aside0.mk ((by rw [hg]; exact (below_size (by repeat (first | (with_reducible first | exact HB.out | apply below_alloc | apply pw_below_drewN | apply below_drew1) | exact HB.out))) : w.heap.size ≤ gb165)); have n3_ := Aside0.mk ((by rw [hg]; exact (below_size (by repeat (first | (with_reducible first | exact HB.out | apply below_alloc | apply pw_below_drewN | apply below_drew1) | exact HB.out))) : w.heap.size ≤ gb165)); clear HB; have HB := n0_; have BK165 := n1_; have GW165 := n2_; have GE165 := n3_; clear n0_ n1_ n2_ n3_; clear hb hbox hg; have hcz15_0 : w14.cell? ⟨gb165, 0, none⟩ = some (.int .i64 a0_0) := (blk_cell BK165.out 0).trans rfl; have hcz15_1 : w14.cell? ⟨gb165, 1, none⟩ = some (.int .i64 a0_1) := (blk_cell BK165.out 1).trans rfl; have hcz15_2 : w14.cell? ⟨gb165, 2, none⟩ = some (.int .i64 a0_2) := (blk_cell BK165.out 2).trans rfl; have hfz15_0 := blk_frozen BK165.out 0; have hfz15_1 := blk_frozen BK165.out 1; have hfz15_2 := blk_frozen BK165.out 2) | ((with_reducible refine gate_callee (f := 71) rfl ?_); refine goesL_ (some 6) rfl rfl Tryd.func71 (by kernel_rfl) rfl #[.int .i64 a0_0] rfl (by (try simp only [List.map_toArray, List.map_cons, List.map_nil]); first | done | rfl | (simp only [List.length_drop, List.length_take]; rfl)) ?_; (with_reducible refine (bonus_in.calls a0_0 false _ A2.out).mono ?_); rintro e w' ⟨rfl, ⟨nd, rfl⟩⟩; refine ⟨_, rfl, ?_⟩))
    go_ret
    exact ⟨by first | rfl | (simp [errW_none, errW_some] <;> rfl) | (simp [*, errW_none, errW_some] <;> rfl), by repeat (first | (with_reducible first | exact HB.out | apply below_alloc | apply pw_below_drewN | apply below_drew1 | refine below_set ?_ GE165.out) | exact HB.out)⟩
def bonus_both.f (k : Nat) (a0_0 : Int) (a0_1 : Int) (a0_2 : Int) (a0_3 : Int) (a0_4 : Int) (a0_5 : Int) (a0_6 : Bool) (a1_0 : Int) (a1_1 : Int) (a1_2 : Int) : Option (Int) := (bonus_Check.f k a0_0 a0_1 a0_2 a0_3 a0_4 a0_5 a0_6).bind fun t171 => (if t171 = 0 then ((bonus_ring.f a1_0 a1_1 a1_2).bind fun t172 => (some t172)) else (some t171))
theorem bonus_both.mono : ∀ a0 a1 a2 a3 a4 a5 a6 a7 a8 a9 k, LeO (bonus_both.f k a0 a1 a2 a3 a4 a5 a6 a7 a8 a9) (bonus_both.f (k + 1) a0 a1 a2 a3 a4 a5 a6 a7 a8 a9) := by
  intro a0 a1 a2 a3 a4 a5 a6 a7 a8 a9 k
  unfold bonus_both.f
  repeat' first
      | (with_reducible exact bonus_Check.mono _ _ _ _ _ _ _ _)
      | (with_reducible exact LeO.refl _)
      | (with_reducible exact LeO.none _)
      | (with_reducible refine LeO.ite ?_ ?_)
      | (with_reducible refine LeO.bind ?_ (fun _ => ?_))
      | exact bonus_Check.mono _ _ _ _ _ _ _ _
      | exact LeO.none _
      | refine LeO.ite ?_ ?_
      | refine LeO.bind ?_ (fun _ => ?_)
set_option maxHeartbeats 8000000 in
set_option maxRecDepth 100000 in
theorem bonus_both.calls (k : Nat) (a0_0 : Int) (a0_1 : Int) (a0_2 : Int) (a0_3 : Int) (a0_4 : Int) (a0_5 : Int) (a0_6 : Bool) (a1_0 : Int) (a1_1 : Int) (a1_2 : Int) (r : Int) (w : World) (h : bonus_both.f k a0_0 a0_1 a0_2 a0_3 a0_4 a0_5 a0_6 a1_0 a1_1 a1_2 = some r) :
    Calls Tryd.prog 93 #[.agg #[.int .i64 a0_0, .int .i64 a0_1, .int .i64 a0_2, .int .i64 a0_3, .int .i64 a0_4, .int .i64 a0_5, .bool a0_6], .agg #[.int .i64 a1_0, .int .i64 a1_1, .int .i64 a1_2]] w fun e w' => e = .returned (.int .i64 r) ∧ Below w.heap.size w w' := by
  have hu27 := Tryd.underlying27
  have hu68 := Tryd.underlying68
  have HB := Aside0.mk (Below.refl w.heap.size w)
  have H : ((bonus_Check.f k a0_0 a0_1 a0_2 a0_3 a0_4 a0_5 a0_6).bind fun t171 => (if t171 = 0 then ((bonus_ring.f a1_0 a1_1 a1_2).bind fun t172 => (some t172)) else (some t171))) = some r := h
  clear h
  replace H := Option.bind_eq_some_iff.mp H
  obtain ⟨t171, A30, H⟩ := H
  replace H : (if t171 = 0 then ((bonus_ring.f a1_0 a1_1 a1_2).bind fun t172 => (some t172)) else (some t171)) = some r := H
  have A3 := Aside0.mk A30
  clear A30
  by_cases c4 : t171 = 0
  · rw [if_pos c4] at H
    have c4b0 : (t171 == 0) = true := beq_iff_eq.mpr c4
    have c4b1 : (t171 != 0) = false := bne_eq_false_iff_eq.mpr c4
    clear c4
    replace H := Option.bind_eq_some_iff.mp H
    obtain ⟨t172, A50, H⟩ := H
    replace H : (some t172) = some r := H
    have A5 := Aside0.mk A50
    clear A50
    obtain rfl := Option.some.inj H
    go_enter Tryd.func93, Tryd.ntmps93
    go_wp2_with (first | ((with_reducible refine gate_dst (N := 2) rfl ?_); refine box_event ?hg (N := 2) ?hd (cs := #[.int .i64 a0_0, .int .i64 a0_1, .int .i64 a0_2, .int .i64 a0_3, .int .i64 a0_4, .int .i64 a0_5, .bool a0_6]) (t := 27) ?hr ?_; (case hd => rfl); (case hg => rfl); (case hr => first | (go_simp; done) | (go_simp; rfl)); intro gb169 hg w6 hbox hb; have n0_ := Aside0.mk (below_step (by repeat (first | (with_reducible first | exact HB.out | apply below_alloc | apply pw_below_drewN | apply below_drew1) | exact HB.out)) hb); have n1_ := Aside0.mk (hbox); have n2_ := Aside0.mk ((by rw [hg]; exact (below_size (by repeat (first | (with_reducible first | exact HB.out | apply below_alloc | apply pw_below_drewN | apply below_drew1) | exact HB.out))) : w.heap.size ≤ gb169)); have n3_ := Aside0.mk ((by rw [hg]; exact (below_size (by repeat (first | (with_reducible first | exact HB.out | apply below_alloc | apply pw_below_drewN | apply below_drew1) | exact HB.out))) : w.heap.size ≤ gb169)); clear HB; have HB := n0_; have BK169 := n1_; have GW169 := n2_; have GE169 := n3_; clear n0_ n1_ n2_ n3_; clear hb hbox hg) | ((with_reducible refine gate_dst (N := 3) rfl ?_); refine box_event ?hg (N := 3) ?hd (cs := #[.int .i64 a1_0, .int .i64 a1_1, .int .i64 a1_2]) (t := 68) ?hr ?_; (case hd => rfl); (case hg => rfl); (case hr => first | (go_simp; done) | (go_simp; rfl)); intro gb170 hg w7 hbox hb; have n0_ := Aside0.mk (blk_below (g := gb169) (o := .cells #[.int .i64 a0_0, .int .i64 a0_1, .int .i64 a0_2, .int .i64 a0_3, .int .i64 a0_4, .int .i64 a0_5, .bool a0_6] 27 (0, 0)) (by (with_reducible repeat (first | refine blk_drewN ?_ _ | refine blk_drew ?_ | refine blk_alloc ?_ _)); exact BK169.out) hb); have n1_ := Aside0.mk (below_step (by repeat (first | (with_reducible first | exact HB.out | apply below_alloc | apply pw_below_drewN | apply below_drew1 | refine below_set ?_ GE169.out) | exact HB.out)) hb); have n2_ := Aside0.mk (hbox); have n3_ := Aside0.mk ((by rw [hg]; exact (below_size (by repeat (first | (with_reducible first | exact HB.out | apply below_alloc | apply pw_below_drewN | apply below_drew1 | refine below_set ?_ GE169.out) | exact HB.out))) : w.heap.size ≤ gb170)); have n4_ := Aside0.mk ((by rw [hg]; exact (below_size (by repeat (first | (with_reducible first | exact HB.out | apply below_alloc | apply pw_below_drewN | apply below_drew1 | refine below_set ?_ GE169.out) | exact HB.out))) : w.heap.size ≤ gb170)); have n5_ := Aside0.mk ((by rw [hg]; exact Nat.ne_of_lt (blk_lt (g := gb169) (o := .cells #[.int .i64 a0_0, .int .i64 a0_1, .int .i64 a0_2, .int .i64 a0_3, .int .i64 a0_4, .int .i64 a0_5, .bool a0_6] 27 (0, 0)) (by (with_reducible repeat (first | refine blk_drewN ?_ _ | refine blk_drew ?_ | refine blk_alloc ?_ _)); exact BK169.out)) : gb169 ≠ gb170)); have n6_ := Aside0.mk ((by rw [hg]; exact Nat.ne_of_gt (blk_lt (g := gb169) (o := .cells #[.int .i64 a0_0, .int .i64 a0_1, .int .i64 a0_2, .int .i64 a0_3, .int .i64 a0_4, .int .i64 a0_5, .bool a0_6] 27 (0, 0)) (by (with_reducible repeat (first | refine blk_drewN ?_ _ | refine blk_drew ?_ | refine blk_alloc ?_ _)); exact BK169.out)) : gb170 ≠ gb169)); clear BK169; clear HB; have BK169 := n0_; have HB := n1_; have BK170 := n2_; have GW170 := n3_; have GE170 := n4_; have NB169_170 := n5_; have NB170_169 := n6_; clear n0_ n1_ n2_ n3_ n4_ n5_ n6_; clear hb hbox hg; have hnb8 := NB169_170.out; have hnc8 := NB170_169.out; have hcz9_0 : w7.cell? ⟨gb169, 0, none⟩ = some (.int .i64 a0_0) := (blk_cell BK169.out 0).trans rfl; have hcz9_1 : w7.cell? ⟨gb169, 1, none⟩ = some (.int .i64 a0_1) := (blk_cell BK169.out 1).trans rfl; have hcz9_2 : w7.cell? ⟨gb169, 2, none⟩ = some (.int .i64 a0_2) := (blk_cell BK169.out 2).trans rfl; have hcz9_3 : w7.cell? ⟨gb169, 3, none⟩ = some (.int .i64 a0_3) := (blk_cell BK169.out 3).trans rfl; have hcz9_4 : w7.cell? ⟨gb169, 4, none⟩ = some (.int .i64 a0_4) := (blk_cell BK169.out 4).trans rfl; have hcz9_5 : w7.cell? ⟨gb169, 5, none⟩ = some (.int .i64 a0_5) := (blk_cell BK169.out 5).trans rfl; have hcz9_6 : w7.cell? ⟨gb169, 6, none⟩ = some (.bool a0_6) := (blk_cell BK169.out 6).trans rfl; have hfz9_0 := blk_frozen BK169.out 0; have hfz9_1 := blk_frozen BK169.out 1; have hfz9_2 := blk_frozen BK169.out 2; have hfz9_3 := blk_frozen BK169.out 3; have hfz9_4 := blk_frozen BK169.out 4; have hfz9_5 := blk_frozen BK169.out 5; have hfz9_6 := blk_frozen BK169.out 6) | ((with_reducible refine gate_callee (f := 22) rfl ?_); refine goesL_ (some 7) rfl rfl Tryd.func22 (by kernel_rfl) rfl #[.agg #[.int .i64 a0_0, .int .i64 a0_1, .int .i64 a0_2, .int .i64 a0_3, .int .i64 a0_4, .int .i64 a0_5, .bool a0_6]] rfl (by (try simp only [List.map_toArray, List.map_cons, List.map_nil]); first | done | rfl | (simp only [List.length_drop, List.length_take]; rfl)) ?_; (with_reducible refine (bonus_Check.calls k a0_0 a0_1 a0_2 a0_3 a0_4 a0_5 a0_6 t171 _ A3.out).mono ?_); rintro e w10 ⟨rfl, hb⟩; refine ⟨_, rfl, ?_⟩; have n0_ := Aside0.mk (blk_below (g := gb169) (o := .cells #[.int .i64 a0_0, .int .i64 a0_1, .int .i64 a0_2, .int .i64 a0_3, .int .i64 a0_4, .int .i64 a0_5, .bool a0_6] 27 (0, 0)) (by (with_reducible repeat (first | refine blk_drewN ?_ _ | refine blk_drew ?_ | refine blk_alloc ?_ _)); exact BK169.out) hb); have n1_ := Aside0.mk (blk_below (g := gb170) (o := .cells #[.int .i64 a1_0, .int .i64 a1_1, .int .i64 a1_2] 68 (0, 0)) (by (with_reducible repeat (first | refine blk_drewN ?_ _ | refine blk_drew ?_ | refine blk_alloc ?_ _)); exact BK170.out) hb); have n2_ := Aside0.mk (below_step (by repeat (first | (with_reducible first | exact HB.out | apply below_alloc | apply pw_below_drewN | apply below_drew1 | refine below_set ?_ GE169.out | refine below_set ?_ GE170.out) | exact HB.out)) hb); clear BK169; clear BK170; clear HB; have BK169 := n0_; have BK170 := n1_; have HB := n2_; clear n0_ n1_ n2_; (try clear hb); (try clear hb2); (try clear hk); (try clear hi); have hcz11_0 : w10.cell? ⟨gb170, 0, none⟩ = some (.int .i64 a1_0) := (blk_cell BK170.out 0).trans rfl; have hcz11_1 : w10.cell? ⟨gb170, 1, none⟩ = some (.int .i64 a1_1) := (blk_cell BK170.out 1).trans rfl; have hcz11_2 : w10.cell? ⟨gb170, 2, none⟩ = some (.int .i64 a1_2) := (blk_cell BK170.out 2).trans rfl; have hfz11_0 := blk_frozen BK170.out 0; have hfz11_1 := blk_frozen BK170.out 1; have hfz11_2 := blk_frozen BK170.out 2) | ((with_reducible refine gate_callee (f := 100) rfl ?_); refine goesL_ (some 12) rfl rfl Tryd.func100 (by kernel_rfl) rfl #[.agg #[.int .i64 a1_0, .int .i64 a1_1, .int .i64 a1_2]] rfl (by (try simp only [List.map_toArray, List.map_cons, List.map_nil]); first | done | rfl | (simp only [List.length_drop, List.length_take]; rfl)) ?_; (with_reducible refine (bonus_ring.calls a1_0 a1_1 a1_2 t172 _ A5.out).mono ?_); rintro e w12 ⟨rfl, hb⟩; refine ⟨_, rfl, ?_⟩; have n0_ := Aside0.mk (blk_below (g := gb169) (o := .cells #[.int .i64 a0_0, .int .i64 a0_1, .int .i64 a0_2, .int .i64 a0_3, .int .i64 a0_4, .int .i64 a0_5, .bool a0_6] 27 (0, 0)) (by (with_reducible repeat (first | refine blk_drewN ?_ _ | refine blk_drew ?_ | refine blk_alloc ?_ _)); exact BK169.out) hb); have n1_ := Aside0.mk (blk_below (g := gb170) (o := .cells #[.int .i64 a1_0, .int .i64 a1_1, .int .i64 a1_2] 68 (0, 0)) (by (with_reducible repeat (first | refine blk_drewN ?_ _ | refine blk_drew ?_ | refine blk_alloc ?_ _)); exact BK170.out) hb); have n2_ := Aside0.mk (below_step (by repeat (first | (with_reducible first | exact HB.out | apply below_alloc | apply pw_below_drewN | apply below_drew1 | refine below_set ?_ GE169.out | refine below_set ?_ GE170.out) | exact HB.out)) hb); clear BK169; clear BK170; clear HB; have BK169 := n0_; have BK170 := n1_; have HB := n2_; clear n0_ n1_ n2_; (try clear hb); (try clear hb2); (try clear hk); (try clear hi)))
    go_ret
    exact ⟨by first | rfl | (simp [errW_none, errW_some] <;> rfl) | (simp [*, errW_none, errW_some] <;> rfl), by repeat (first | (with_reducible first | exact HB.out | apply below_alloc | apply pw_below_drewN | apply below_drew1 | refine below_set ?_ GE169.out | refine below_set ?_ GE170.out) | exact HB.out)⟩
  · rw [if_neg c4] at H
    have c4b0 : (t171 == 0) = false := beq_eq_false_iff_ne.mpr c4
    have c4b1 : (t171 != 0) = true := bne_iff_ne.mpr c4
    obtain rfl := Option.some.inj H
    go_enter Tryd.func93, Tryd.ntmps93
    go_wp2_with (first | ((with_reducible refine gate_dst (N := 2) rfl ?_); refine box_event ?hg (N := 2) ?hd (cs := #[.int .i64 a0_0, .int .i64 a0_1, .int .i64 a0_2, .int .i64 a0_3, .int .i64 a0_4, .int .i64 a0_5, .bool a0_6]) (t := 27) ?hr ?_; (case hd => rfl); (case hg => rfl); (case hr => first | (go_simp; done) | (go_simp; rfl)); intro gb169 hg w13 hbox hb; have n0_ := Aside0.mk (below_step (by repeat (first | (with_reducible first | exact HB.out | apply below_alloc | apply pw_below_drewN | apply below_drew1) | exact HB.out)) hb); have n1_ := Aside0.mk (hbox); have n2_ := Aside0.mk ((by rw [hg]; exact (below_size (by repeat (first | (with_reducible first | exact HB.out | apply below_alloc | apply pw_below_drewN | apply below_drew1) | exact HB.out))) : w.heap.size ≤ gb169)); have n3_ := Aside0.mk ((by rw [hg]; exact (below_size (by repeat (first | (with_reducible first | exact HB.out | apply below_alloc | apply pw_below_drewN | apply below_drew1) | exact HB.out))) : w.heap.size ≤ gb169)); clear HB; have HB := n0_; have BK169 := n1_; have GW169 := n2_; have GE169 := n3_; clear n0_ n1_ n2_ n3_; clear hb hbox hg) | ((with_reducible refine gate_dst (N := 3) rfl ?_); refine box_event ?hg (N := 3) ?hd (cs := #[.int .i64 a1_0, .int .i64 a1_1, .int .i64 a1_2]) (t := 68) ?hr ?_; (case hd => rfl); (case hg => rfl); (case hr => first | (go_simp; done) | (go_simp; rfl)); intro gb170 hg w14 hbox hb; have n0_ := Aside0.mk (blk_below (g := gb169) (o := .cells #[.int .i64 a0_0, .int .i64 a0_1, .int .i64 a0_2, .int .i64 a0_3, .int .i64 a0_4, .int .i64 a0_5, .bool a0_6] 27 (0, 0)) (by (with_reducible repeat (first | refine blk_drewN ?_ _ | refine blk_drew ?_ | refine blk_alloc ?_ _)); exact BK169.out) hb); have n1_ := Aside0.mk (below_step (by repeat (first | (with_reducible first | exact HB.out | apply below_alloc | apply pw_below_drewN | apply below_drew1 | refine below_set ?_ GE169.out) | exact HB.out)) hb); have n2_ := Aside0.mk (hbox); have n3_ := Aside0.mk ((by rw [hg]; exact (below_size (by repeat (first | (with_reducible first | exact HB.out | apply below_alloc | apply pw_below_drewN | apply below_drew1 | refine below_set ?_ GE169.out) | exact HB.out))) : w.heap.size ≤ gb170)); have n4_ := Aside0.mk ((by rw [hg]; exact (below_size (by repeat (first | (with_reducible first | exact HB.out | apply below_alloc | apply pw_below_drewN | apply below_drew1 | refine below_set ?_ GE169.out) | exact HB.out))) : w.heap.size ≤ gb170)); have n5_ := Aside0.mk ((by rw [hg]; exact Nat.ne_of_lt (blk_lt (g := gb169) (o := .cells #[.int .i64 a0_0, .int .i64 a0_1, .int .i64 a0_2, .int .i64 a0_3, .int .i64 a0_4, .int .i64 a0_5, .bool a0_6] 27 (0, 0)) (by (with_reducible repeat (first | refine blk_drewN ?_ _ | refine blk_drew ?_ | refine blk_alloc ?_ _)); exact BK169.out)) : gb169 ≠ gb170)); have n6_ := Aside0.mk ((by rw [hg]; exact Nat.ne_of_gt (blk_lt (g := gb169) (o := .cells #[.int .i64 a0_0, .int .i64 a0_1, .int .i64 a0_2, .int .i64 a0_3, .int .i64 a0_4, .int .i64 a0_5, .bool a0_6] 27 (0, 0)) (by (with_reducible repeat (first | refine blk_drewN ?_ _ | refine blk_drew ?_ | refine blk_alloc ?_ _)); exact BK169.out)) : gb170 ≠ gb169)); clear BK169; clear HB; have BK169 := n0_; have HB := n1_; have BK170 := n2_; have GW170 := n3_; have GE170 := n4_; have NB169_170 := n5_; have NB170_169 := n6_; clear n0_ n1_ n2_ n3_ n4_ n5_ n6_; clear hb hbox hg; have hnb15 := NB169_170.out; have hnc15 := NB170_169.out; have hcz16_0 : w14.cell? ⟨gb169, 0, none⟩ = some (.int .i64 a0_0) := (blk_cell BK169.out 0).trans rfl; have hcz16_1 : w14.cell? ⟨gb169, 1, none⟩ = some (.int .i64 a0_1) := (blk_cell BK169.out 1).trans rfl; have hcz16_2 : w14.cell? ⟨gb169, 2, none⟩ = some (.int .i64 a0_2) := (blk_cell BK169.out 2).trans rfl; have hcz16_3 : w14.cell? ⟨gb169, 3, none⟩ = some (.int .i64 a0_3) := (blk_cell BK169.out 3).trans rfl; have hcz16_4 : w14.cell? ⟨gb169, 4, none⟩ = some (.int .i64 a0_4) := (blk_cell BK169.out 4).trans rfl; have hcz16_5 : w14.cell? ⟨gb169, 5, none⟩ = some (.int .i64 a0_5) := (blk_cell BK169.out 5).trans rfl; have hcz16_6 : w14.cell? ⟨gb169, 6, none⟩ = some (.bool a0_6) := (blk_cell BK169.out 6).trans rfl; have hfz16_0 := blk_frozen BK169.out 0; have hfz16_1 := blk_frozen BK169.out 1; have hfz16_2 := blk_frozen BK169.out 2; have hfz16_3 := blk_frozen BK169.out 3; have hfz16_4 := blk_frozen BK169.out 4; have hfz16_5 := blk_frozen BK169.out 5; have hfz16_6 := blk_frozen BK169.out 6) | ((with_reducible refine gate_callee (f := 22) rfl ?_); refine goesL_ (some 7) rfl rfl Tryd.func22 (by kernel_rfl) rfl #[.agg #[.int .i64 a0_0, .int .i64 a0_1, .int .i64 a0_2, .int .i64 a0_3, .int .i64 a0_4, .int .i64 a0_5, .bool a0_6]] rfl (by (try simp only [List.map_toArray, List.map_cons, List.map_nil]); first | done | rfl | (simp only [List.length_drop, List.length_take]; rfl)) ?_; (with_reducible refine (bonus_Check.calls k a0_0 a0_1 a0_2 a0_3 a0_4 a0_5 a0_6 t171 _ A3.out).mono ?_); rintro e w17 ⟨rfl, hb⟩; refine ⟨_, rfl, ?_⟩; have n0_ := Aside0.mk (blk_below (g := gb169) (o := .cells #[.int .i64 a0_0, .int .i64 a0_1, .int .i64 a0_2, .int .i64 a0_3, .int .i64 a0_4, .int .i64 a0_5, .bool a0_6] 27 (0, 0)) (by (with_reducible repeat (first | refine blk_drewN ?_ _ | refine blk_drew ?_ | refine blk_alloc ?_ _)); exact BK169.out) hb); have n1_ := Aside0.mk (blk_below (g := gb170) (o := .cells #[.int .i64 a1_0, .int .i64 a1_1, .int .i64 a1_2] 68 (0, 0)) (by (with_reducible repeat (first | refine blk_drewN ?_ _ | refine blk_drew ?_ | refine blk_alloc ?_ _)); exact BK170.out) hb); have n2_ := Aside0.mk (below_step (by repeat (first | (with_reducible first | exact HB.out | apply below_alloc | apply pw_below_drewN | apply below_drew1 | refine below_set ?_ GE169.out | refine below_set ?_ GE170.out) | exact HB.out)) hb); clear BK169; clear BK170; clear HB; have BK169 := n0_; have BK170 := n1_; have HB := n2_; clear n0_ n1_ n2_; (try clear hb); (try clear hb2); (try clear hk); (try clear hi)))
    go_ret
    exact ⟨by first | rfl | (simp [errW_none, errW_some] <;> rfl) | (simp [*, errW_none, errW_some] <;> rfl), by repeat (first | (with_reducible first | exact HB.out | apply below_alloc | apply pw_below_drewN | apply below_drew1 | refine below_set ?_ GE169.out | refine below_set ?_ GE170.out) | exact HB.out)⟩
def bonus_gap.f (a0_0 : Int) (a0_1 : Int) (a0_2 : Int) (a0_3 : Int) (a0_4 : Int) (a0_5 : Int) (a0_6 : Bool) (a1_0 : Int) (a1_1 : Int) (a1_2 : Int) : Option (Int × Int) := some (wrap64 (a1_0 - a0_0), wrap64 (a1_1 - a0_1))
set_option maxHeartbeats 8000000 in
set_option maxRecDepth 100000 in
theorem bonus_gap.calls (a0_0 : Int) (a0_1 : Int) (a0_2 : Int) (a0_3 : Int) (a0_4 : Int) (a0_5 : Int) (a0_6 : Bool) (a1_0 : Int) (a1_1 : Int) (a1_2 : Int) (r1 : Int) (r2 : Int) (w : World) (h : bonus_gap.f a0_0 a0_1 a0_2 a0_3 a0_4 a0_5 a0_6 a1_0 a1_1 a1_2 = some (r1, r2)) :
    Calls Tryd.prog 94 #[.agg #[.int .i64 a0_0, .int .i64 a0_1, .int .i64 a0_2, .int .i64 a0_3, .int .i64 a0_4, .int .i64 a0_5, .bool a0_6], .agg #[.int .i64 a1_0, .int .i64 a1_1, .int .i64 a1_2]] w fun e w' => e = .returned (.tuple #[.int .i64 r1, .int .i64 r2]) ∧ Below w.heap.size w w' := by
  have hu27 := Tryd.underlying27
  have hu68 := Tryd.underlying68
  have HB := Aside0.mk (Below.refl w.heap.size w)
  have H : (some (wrap64 (a1_0 - a0_0), wrap64 (a1_1 - a0_1))) = some (r1, r2) := h
  clear h
  simp only [Option.some.injEq, Prod.mk.injEq] at H
  obtain ⟨rfl, rfl⟩ := H
  go_enter Tryd.func94, Tryd.ntmps94
  go_wp2_with (first | ((with_reducible refine gate_dst (N := 2) rfl ?_); refine box_event ?hg (N := 2) ?hd (cs := #[.int .i64 a0_0, .int .i64 a0_1, .int .i64 a0_2, .int .i64 a0_3, .int .i64 a0_4, .int .i64 a0_5, .bool a0_6]) (t := 27) ?hr ?_; (case hd => rfl); (case hg => rfl); (case hr => first | (go_simp; done) | (go_simp; rfl)); intro gb173 hg w3 hbox hb; have n0_ := Aside0.mk (below_step (by repeat (first | (with_reducible first | exact HB.out | apply below_alloc | apply pw_below_drewN | apply below_drew1) | exact HB.out)) hb); have n1_ := Aside0.mk (hbox); have n2_ := Aside0.mk ((by rw [hg]; exact (below_size (by repeat (first | (with_reducible first | exact HB.out | apply below_alloc | apply pw_below_drewN | apply below_drew1) | exact HB.out))) : w.heap.size ≤ gb173)); have n3_ := Aside0.mk ((by rw [hg]; exact (below_size (by repeat (first | (with_reducible first | exact HB.out | apply below_alloc | apply pw_below_drewN | apply below_drew1) | exact HB.out))) : w.heap.size ≤ gb173)); clear HB; have HB := n0_; have BK173 := n1_; have GW173 := n2_; have GE173 := n3_; clear n0_ n1_ n2_ n3_; clear hb hbox hg) | ((with_reducible refine gate_dst (N := 3) rfl ?_); refine box_event ?hg (N := 3) ?hd (cs := #[.int .i64 a1_0, .int .i64 a1_1, .int .i64 a1_2]) (t := 68) ?hr ?_; (case hd => rfl); (case hg => rfl); (case hr => first | (go_simp; done) | (go_simp; rfl)); intro gb174 hg w4 hbox hb; have n0_ := Aside0.mk (blk_below (g := gb173) (o := .cells #[.int .i64 a0_0, .int .i64 a0_1, .int .i64 a0_2, .int .i64 a0_3, .int .i64 a0_4, .int .i64 a0_5, .bool a0_6] 27 (0, 0)) (by (with_reducible repeat (first | refine blk_drewN ?_ _ | refine blk_drew ?_ | refine blk_alloc ?_ _)); exact BK173.out) hb); have n1_ := Aside0.mk (below_step (by repeat (first | (with_reducible first | exact HB.out | apply below_alloc | apply pw_below_drewN | apply below_drew1 | refine below_set ?_ GE173.out) | exact HB.out)) hb); have n2_ := Aside0.mk (hbox); have n3_ := Aside0.mk ((by rw [hg]; exact (below_size (by repeat (first | (with_reducible first | exact HB.out | apply below_alloc | apply pw_below_drewN | apply below_drew1 | refine below_set ?_ GE173.out) | exact HB.out))) : w.heap.size ≤ gb174)); have n4_ := Aside0.mk ((by rw [hg]; exact (below_size (by repeat (first | (with_reducible first | exact HB.out | apply below_alloc | apply pw_below_drewN | apply below_drew1 | refine below_set ?_ GE173.out) | exact HB.out))) : w.heap.size ≤ gb174)); have n5_ := Aside0.mk ((by rw [hg]; exact Nat.ne_of_lt (blk_lt (g := gb173) (o := .cells #[.int .i64 a0_0, .int .i64 a0_1, .int .i64 a0_2, .int .i64 a0_3, .int .i64 a0_4, .int .i64 a0_5, .bool a0_6] 27 (0, 0)) (by (with_reducible repeat (first | refine blk_drewN ?_ _ | refine blk_drew ?_ | refine blk_alloc ?_ _)); exact BK173.out)) : gb173 ≠ gb174)); have n6_ := Aside0.mk ((by rw [hg]; exact Nat.ne_of_gt (blk_lt (g := gb173) (o := .cells #[.int .i64 a0_0, .int .i64 a0_1, .int .i64 a0_2, .int .i64 a0_3, .int .i64 a0_4, .int .i64 a0_5, .bool a0_6] 27 (0, 0)) (by (with_reducible repeat (first | refine blk_drewN ?_ _ | refine blk_drew ?_ | refine blk_alloc ?_ _)); exact BK173.out)) : gb174 ≠ gb173)); clear BK173; clear HB; have BK173 := n0_; have HB := n1_; have BK174 := n2_; have GW174 := n3_; have GE174 := n4_; have NB173_174 := n5_; have NB174_173 := n6_; clear n0_ n1_ n2_ n3_ n4_ n5_ n6_; clear hb hbox hg; have hnb5 := NB174_173.out; have hnc5 := NB173_174.out; have hcz6_0 : w4.cell? ⟨gb174, 0, none⟩ = some (.int .i64 a1_0) := (blk_cell BK174.out 0).trans rfl; have hcz6_1 : w4.cell? ⟨gb174, 1, none⟩ = some (.int .i64 a1_1) := (blk_cell BK174.out 1).trans rfl; have hcz6_2 : w4.cell? ⟨gb174, 2, none⟩ = some (.int .i64 a1_2) := (blk_cell BK174.out 2).trans rfl; have hfz6_0 := blk_frozen BK174.out 0; have hfz6_1 := blk_frozen BK174.out 1; have hfz6_2 := blk_frozen BK174.out 2; have hcz7_0 : w4.cell? ⟨gb173, 0, none⟩ = some (.int .i64 a0_0) := (blk_cell BK173.out 0).trans rfl; have hcz7_1 : w4.cell? ⟨gb173, 1, none⟩ = some (.int .i64 a0_1) := (blk_cell BK173.out 1).trans rfl; have hcz7_2 : w4.cell? ⟨gb173, 2, none⟩ = some (.int .i64 a0_2) := (blk_cell BK173.out 2).trans rfl; have hcz7_3 : w4.cell? ⟨gb173, 3, none⟩ = some (.int .i64 a0_3) := (blk_cell BK173.out 3).trans rfl; have hcz7_4 : w4.cell? ⟨gb173, 4, none⟩ = some (.int .i64 a0_4) := (blk_cell BK173.out 4).trans rfl; have hcz7_5 : w4.cell? ⟨gb173, 5, none⟩ = some (.int .i64 a0_5) := (blk_cell BK173.out 5).trans rfl; have hcz7_6 : w4.cell? ⟨gb173, 6, none⟩ = some (.bool a0_6) := (blk_cell BK173.out 6).trans rfl; have hfz7_0 := blk_frozen BK173.out 0; have hfz7_1 := blk_frozen BK173.out 1; have hfz7_2 := blk_frozen BK173.out 2; have hfz7_3 := blk_frozen BK173.out 3; have hfz7_4 := blk_frozen BK173.out 4; have hfz7_5 := blk_frozen BK173.out 5; have hfz7_6 := blk_frozen BK173.out 6))
  repeat (go_quiet (first | ((with_reducible refine gate_dst (N := 2) rfl ?_); refine box_event ?hg (N := 2) ?hd (cs := #[.int .i64 a0_0, .int .i64 a0_1, .int .i64 a0_2, .int .i64 a0_3, .int .i64 a0_4, .int .i64 a0_5, .bool a0_6]) (t := 27) ?hr ?_; (case hd => rfl); (case hg => rfl); (case hr => first | (go_simp; done) | (go_simp; rfl)); intro gb173 hg w3 hbox hb; have n0_ := Aside0.mk (below_step (by repeat (first | (with_reducible first | exact HB.out | apply below_alloc | apply pw_below_drewN | apply below_drew1) | exact HB.out)) hb); have n1_ := Aside0.mk (hbox); have n2_ := Aside0.mk ((by rw [hg]; exact (below_size (by repeat (first | (with_reducible first | exact HB.out | apply below_alloc | apply pw_below_drewN | apply below_drew1) | exact HB.out))) : w.heap.size ≤ gb173)); have n3_ := Aside0.mk ((by rw [hg]; exact (below_size (by repeat (first | (with_reducible first | exact HB.out | apply below_alloc | apply pw_below_drewN | apply below_drew1) | exact HB.out))) : w.heap.size ≤ gb173)); clear HB; have HB := n0_; have BK173 := n1_; have GW173 := n2_; have GE173 := n3_; clear n0_ n1_ n2_ n3_; clear hb hbox hg) | ((with_reducible refine gate_dst (N := 3) rfl ?_); refine box_event ?hg (N := 3) ?hd (cs := #[.int .i64 a1_0, .int .i64 a1_1, .int .i64 a1_2]) (t := 68) ?hr ?_; (case hd => rfl); (case hg => rfl); (case hr => first | (go_simp; done) | (go_simp; rfl)); intro gb174 hg w4 hbox hb; have n0_ := Aside0.mk (blk_below (g := gb173) (o := .cells #[.int .i64 a0_0, .int .i64 a0_1, .int .i64 a0_2, .int .i64 a0_3, .int .i64 a0_4, .int .i64 a0_5, .bool a0_6] 27 (0, 0)) (by (with_reducible repeat (first | refine blk_drewN ?_ _ | refine blk_drew ?_ | refine blk_alloc ?_ _)); exact BK173.out) hb); have n1_ := Aside0.mk (below_step (by repeat (first | (with_reducible first | exact HB.out | apply below_alloc | apply pw_below_drewN | apply below_drew1 | refine below_set ?_ GE173.out) | exact HB.out)) hb); have n2_ := Aside0.mk (hbox); have n3_ := Aside0.mk ((by rw [hg]; exact (below_size (by repeat (first | (with_reducible first | exact HB.out | apply below_alloc | apply pw_below_drewN | apply below_drew1 | refine below_set ?_ GE173.out) | exact HB.out))) : w.heap.size ≤ gb174)); have n4_ := Aside0.mk ((by rw [hg]; exact (below_size (by repeat (first | (with_reducible first | exact HB.out | apply below_alloc | apply pw_below_drewN | apply below_drew1 | refine below_set ?_ GE173.out) | exact HB.out))) : w.heap.size ≤ gb174)); have n5_ := Aside0.mk ((by rw [hg]; exact Nat.ne_of_lt (blk_lt (g := gb173) (o := .cells #[.int .i64 a0_0, .int .i64 a0_1, .int .i64 a0_2, .int .i64 a0_3, .int .i64 a0_4, .int .i64 a0_5, .bool a0_6] 27 (0, 0)) (by (with_reducible repeat (first | refine blk_drewN ?_ _ | refine blk_drew ?_ | refine blk_alloc ?_ _)); exact BK173.out)) : gb173 ≠ gb174)); have n6_ := Aside0.mk ((by rw [hg]; exact Nat.ne_of_gt (blk_lt (g := gb173) (o := .cells #[.int .i64 a0_0, .int .i64 a0_1, .int .i64 a0_2, .int .i64 a0_3, .int .i64 a0_4, .int .i64 a0_5, .bool a0_6] 27 (0, 0)) (by (with_reducible repeat (first | refine blk_drewN ?_ _ | refine blk_drew ?_ | refine blk_alloc ?_ _)); exact BK173.out)) : gb174 ≠ gb173)); clear BK173; clear HB; have BK173 := n0_; have HB := n1_; have BK174 := n2_; have GW174 := n3_; have GE174 := n4_; have NB173_174 := n5_; have NB174_173 := n6_; clear n0_ n1_ n2_ n3_ n4_ n5_ n6_; clear hb hbox hg; have hnb5 := NB174_173.out; have hnc5 := NB173_174.out; have hcz6_0 : w4.cell? ⟨gb174, 0, none⟩ = some (.int .i64 a1_0) := (blk_cell BK174.out 0).trans rfl; have hcz6_1 : w4.cell? ⟨gb174, 1, none⟩ = some (.int .i64 a1_1) := (blk_cell BK174.out 1).trans rfl; have hcz6_2 : w4.cell? ⟨gb174, 2, none⟩ = some (.int .i64 a1_2) := (blk_cell BK174.out 2).trans rfl; have hfz6_0 := blk_frozen BK174.out 0; have hfz6_1 := blk_frozen BK174.out 1; have hfz6_2 := blk_frozen BK174.out 2; have hcz7_0 : w4.cell? ⟨gb173, 0, none⟩ = some (.int .i64 a0_0) := (blk_cell BK173.out 0).trans rfl; have hcz7_1 : w4.cell? ⟨gb173, 1, none⟩ = some (.int .i64 a0_1) := (blk_cell BK173.out 1).trans rfl; have hcz7_2 : w4.cell? ⟨gb173, 2, none⟩ = some (.int .i64 a0_2) := (blk_cell BK173.out 2).trans rfl; have hcz7_3 : w4.cell? ⟨gb173, 3, none⟩ = some (.int .i64 a0_3) := (blk_cell BK173.out 3).trans rfl; have hcz7_4 : w4.cell? ⟨gb173, 4, none⟩ = some (.int .i64 a0_4) := (blk_cell BK173.out 4).trans rfl; have hcz7_5 : w4.cell? ⟨gb173, 5, none⟩ = some (.int .i64 a0_5) := (blk_cell BK173.out 5).trans rfl; have hcz7_6 : w4.cell? ⟨gb173, 6, none⟩ = some (.bool a0_6) := (blk_cell BK173.out 6).trans rfl; have hfz7_0 := blk_frozen BK173.out 0; have hfz7_1 := blk_frozen BK173.out 1; have hfz7_2 := blk_frozen BK173.out 2; have hfz7_3 := blk_frozen BK173.out 3; have hfz7_4 := blk_frozen BK173.out 4; have hfz7_5 := blk_frozen BK173.out 5; have hfz7_6 := blk_frozen BK173.out 6)); try go_wp2_with (first | ((with_reducible refine gate_dst (N := 2) rfl ?_); refine box_event ?hg (N := 2) ?hd (cs := #[.int .i64 a0_0, .int .i64 a0_1, .int .i64 a0_2, .int .i64 a0_3, .int .i64 a0_4, .int .i64 a0_5, .bool a0_6]) (t := 27) ?hr ?_; (case hd => rfl); (case hg => rfl); (case hr => first | (go_simp; done) | (go_simp; rfl)); intro gb173 hg w3 hbox hb; have n0_ := Aside0.mk (below_step (by repeat (first | (with_reducible first | exact HB.out | apply below_alloc | apply pw_below_drewN | apply below_drew1) | exact HB.out)) hb); have n1_ := Aside0.mk (hbox); have n2_ := Aside0.mk ((by rw [hg]; exact (below_size (by repeat (first | (with_reducible first | exact HB.out | apply below_alloc | apply pw_below_drewN | apply below_drew1) | exact HB.out))) : w.heap.size ≤ gb173)); have n3_ := Aside0.mk ((by rw [hg]; exact (below_size (by repeat (first | (with_reducible first | exact HB.out | apply below_alloc | apply pw_below_drewN | apply below_drew1) | exact HB.out))) : w.heap.size ≤ gb173)); clear HB; have HB := n0_; have BK173 := n1_; have GW173 := n2_; have GE173 := n3_; clear n0_ n1_ n2_ n3_; clear hb hbox hg) | ((with_reducible refine gate_dst (N := 3) rfl ?_); refine box_event ?hg (N := 3) ?hd (cs := #[.int .i64 a1_0, .int .i64 a1_1, .int .i64 a1_2]) (t := 68) ?hr ?_; (case hd => rfl); (case hg => rfl); (case hr => first | (go_simp; done) | (go_simp; rfl)); intro gb174 hg w4 hbox hb; have n0_ := Aside0.mk (blk_below (g := gb173) (o := .cells #[.int .i64 a0_0, .int .i64 a0_1, .int .i64 a0_2, .int .i64 a0_3, .int .i64 a0_4, .int .i64 a0_5, .bool a0_6] 27 (0, 0)) (by (with_reducible repeat (first | refine blk_drewN ?_ _ | refine blk_drew ?_ | refine blk_alloc ?_ _)); exact BK173.out) hb); have n1_ := Aside0.mk (below_step (by repeat (first | (with_reducible first | exact HB.out | apply below_alloc | apply pw_below_drewN | apply below_drew1 | refine below_set ?_ GE173.out) | exact HB.out)) hb); have n2_ := Aside0.mk (hbox); have n3_ := Aside0.mk ((by rw [hg]; exact (below_size (by repeat (first | (with_reducible first | exact HB.out | apply below_alloc | apply pw_below_drewN | apply below_drew1 | refine below_set ?_ GE173.out) | exact HB.out))) : w.heap.size ≤ gb174)); have n4_ := Aside0.mk ((by rw [hg]; exact (below_size (by repeat (first | (with_reducible first | exact HB.out | apply below_alloc | apply pw_below_drewN | apply below_drew1 | refine below_set ?_ GE173.out) | exact HB.out))) : w.heap.size ≤ gb174)); have n5_ := Aside0.mk ((by rw [hg]; exact Nat.ne_of_lt (blk_lt (g := gb173) (o := .cells #[.int .i64 a0_0, .int .i64 a0_1, .int .i64 a0_2, .int .i64 a0_3, .int .i64 a0_4, .int .i64 a0_5, .bool a0_6] 27 (0, 0)) (by (with_reducible repeat (first | refine blk_drewN ?_ _ | refine blk_drew ?_ | refine blk_alloc ?_ _)); exact BK173.out)) : gb173 ≠ gb174)); have n6_ := Aside0.mk ((by rw [hg]; exact Nat.ne_of_gt (blk_lt (g := gb173) (o := .cells #[.int .i64 a0_0, .int .i64 a0_1, .int .i64 a0_2, .int .i64 a0_3, .int .i64 a0_4, .int .i64 a0_5, .bool a0_6] 27 (0, 0)) (by (with_reducible repeat (first | refine blk_drewN ?_ _ | refine blk_drew ?_ | refine blk_alloc ?_ _)); exact BK173.out)) : gb174 ≠ gb173)); clear BK173; clear HB; have BK173 := n0_; have HB := n1_; have BK174 := n2_; have GW174 := n3_; have GE174 := n4_; have NB173_174 := n5_; have NB174_173 := n6_; clear n0_ n1_ n2_ n3_ n4_ n5_ n6_; clear hb hbox hg; have hnb5 := NB174_173.out; have hnc5 := NB173_174.out; have hcz6_0 : w4.cell? ⟨gb174, 0, none⟩ = some (.int .i64 a1_0) := (blk_cell BK174.out 0).trans rfl; have hcz6_1 : w4.cell? ⟨gb174, 1, none⟩ = some (.int .i64 a1_1) := (blk_cell BK174.out 1).trans rfl; have hcz6_2 : w4.cell? ⟨gb174, 2, none⟩ = some (.int .i64 a1_2) := (blk_cell BK174.out 2).trans rfl; have hfz6_0 := blk_frozen BK174.out 0; have hfz6_1 := blk_frozen BK174.out 1; have hfz6_2 := blk_frozen BK174.out 2; have hcz7_0 : w4.cell? ⟨gb173, 0, none⟩ = some (.int .i64 a0_0) := (blk_cell BK173.out 0).trans rfl; have hcz7_1 : w4.cell? ⟨gb173, 1, none⟩ = some (.int .i64 a0_1) := (blk_cell BK173.out 1).trans rfl; have hcz7_2 : w4.cell? ⟨gb173, 2, none⟩ = some (.int .i64 a0_2) := (blk_cell BK173.out 2).trans rfl; have hcz7_3 : w4.cell? ⟨gb173, 3, none⟩ = some (.int .i64 a0_3) := (blk_cell BK173.out 3).trans rfl; have hcz7_4 : w4.cell? ⟨gb173, 4, none⟩ = some (.int .i64 a0_4) := (blk_cell BK173.out 4).trans rfl; have hcz7_5 : w4.cell? ⟨gb173, 5, none⟩ = some (.int .i64 a0_5) := (blk_cell BK173.out 5).trans rfl; have hcz7_6 : w4.cell? ⟨gb173, 6, none⟩ = some (.bool a0_6) := (blk_cell BK173.out 6).trans rfl; have hfz7_0 := blk_frozen BK173.out 0; have hfz7_1 := blk_frozen BK173.out 1; have hfz7_2 := blk_frozen BK173.out 2; have hfz7_3 := blk_frozen BK173.out 3; have hfz7_4 := blk_frozen BK173.out 4; have hfz7_5 := blk_frozen BK173.out 5; have hfz7_6 := blk_frozen BK173.out 6)))
  go_ret2
  exact ⟨by first | rfl | (simp [errW_none, errW_some] <;> rfl) | (simp [*, errW_none, errW_some] <;> rfl), by repeat (first | (with_reducible first | exact HB.out | apply below_alloc | apply pw_below_drewN | apply below_drew1 | refine below_set ?_ GE173.out | refine below_set ?_ GE174.out) | exact HB.out)⟩
def bonus_good.f (a0_0 : Int) (a0_1 : Int) (a0_2 : Int) (a0_3 : Int) (a0_4 : Int) (a0_5 : Int) (a0_6 : Bool) (a1_0 : Int) (a1_1 : Int) (a1_2 : Int) : Option (Bool) := (bonus_gap.f a0_0 a0_1 a0_2 a0_3 a0_4 a0_5 a0_6 a1_0 a1_1 a1_2).bind fun bt177 => ((bonus_of.f a0_0 a0_1 a0_2 a0_3 a0_4 a0_5 a0_6).bind fun bt179 => ((bonus_condition_extra.f bt179.1 bt179.2.1 bt179.2.2.1 bt179.2.2.2.1 bt179.2.2.2.2.1 bt179.2.2.2.2.2.1 bt179.2.2.2.2.2.2.1 bt179.2.2.2.2.2.2.2 a1_2).bind fun t187 => ((bonus_within.f a0_0 a0_1 a0_2 a0_3 a0_4 a0_5 a0_6 a1_2).bind fun t188 => (if t188 = true then (some (decide ((wrap64 (4 * (wrap64 ((wrap64 (bt177.1 * bt177.1)) + (wrap64 (bt177.2 * bt177.2)))))) ≤ (wrap64 ((wrap64 (a0_4 + t187)) * (wrap64 (a0_4 + t187))))))) else (some false)))))
def bonus_good.T2 : Bool × List (List Nat × List Nat) := (true, [([], []), ([0], [0]), ([], []), ([2], [2]), ([], []), ([4], [4]), ([3, 5, 3], [3, 5]), ([1, 6], [1, 6]), ([7, 6, 0, 1, 2, 3, 4, 5, 6, 7], [7])])
def bonus_good.B2 : List Nat := [0, 1, 0, 4, 0, 16, 60, 127, 255]
theorem bonus_good.tab2 : rtab .any (opsOf Tryd.f95 2) = bonus_good.T2 := by kernel_rfl
theorem bonus_good.bits2 : waitsOk bonus_good.T2.2 bonus_good.B2 = true := by kernel_rfl
set_option maxHeartbeats 8000000 in
set_option maxRecDepth 100000 in
theorem bonus_good.calls (a0_0 : Int) (a0_1 : Int) (a0_2 : Int) (a0_3 : Int) (a0_4 : Int) (a0_5 : Int) (a0_6 : Bool) (a1_0 : Int) (a1_1 : Int) (a1_2 : Int) (r : Bool) (w : World) (h : bonus_good.f a0_0 a0_1 a0_2 a0_3 a0_4 a0_5 a0_6 a1_0 a1_1 a1_2 = some r) (hS : SignsAt w) :
    Calls Tryd.prog 95 #[.agg #[.int .i64 a0_0, .int .i64 a0_1, .int .i64 a0_2, .int .i64 a0_3, .int .i64 a0_4, .int .i64 a0_5, .bool a0_6], .agg #[.int .i64 a1_0, .int .i64 a1_1, .int .i64 a1_2]] w fun e w' => e = .returned (.bool r) ∧ Below w.heap.size w w' := by
  have HS := Aside0.mk hS
  clear hS
  have hu27 := Tryd.underlying27
  have hu68 := Tryd.underlying68
  have HB := Aside0.mk (Below.refl w.heap.size w)
  have H : ((bonus_gap.f a0_0 a0_1 a0_2 a0_3 a0_4 a0_5 a0_6 a1_0 a1_1 a1_2).bind fun bt177 => ((bonus_of.f a0_0 a0_1 a0_2 a0_3 a0_4 a0_5 a0_6).bind fun bt179 => ((bonus_condition_extra.f bt179.1 bt179.2.1 bt179.2.2.1 bt179.2.2.2.1 bt179.2.2.2.2.1 bt179.2.2.2.2.2.1 bt179.2.2.2.2.2.2.1 bt179.2.2.2.2.2.2.2 a1_2).bind fun t187 => ((bonus_within.f a0_0 a0_1 a0_2 a0_3 a0_4 a0_5 a0_6 a1_2).bind fun t188 => (if t188 = true then (some (decide ((wrap64 (4 * (wrap64 ((wrap64 (bt177.1 * bt177.1)) + (wrap64 (bt177.2 * bt177.2)))))) ≤ (wrap64 ((wrap64 (a0_4 + t187)) * (wrap64 (a0_4 + t187))))))) else (some false)))))) = some r := h
  clear h
  replace H := Option.bind_eq_some_iff.mp H
  obtain ⟨⟨t177, t178⟩, A30, H⟩ := H
  replace H : ((bonus_of.f a0_0 a0_1 a0_2 a0_3 a0_4 a0_5 a0_6).bind fun bt179 => ((bonus_condition_extra.f bt179.1 bt179.2.1 bt179.2.2.1 bt179.2.2.2.1 bt179.2.2.2.2.1 bt179.2.2.2.2.2.1 bt179.2.2.2.2.2.2.1 bt179.2.2.2.2.2.2.2 a1_2).bind fun t187 => ((bonus_within.f a0_0 a0_1 a0_2 a0_3 a0_4 a0_5 a0_6 a1_2).bind fun t188 => (if t188 = true then (some (decide ((wrap64 (4 * (wrap64 ((wrap64 (t177 * t177)) + (wrap64 (t178 * t178)))))) ≤ (wrap64 ((wrap64 (a0_4 + t187)) * (wrap64 (a0_4 + t187))))))) else (some false))))) = some r := H
  have A3 := Aside0.mk A30
  clear A30
  replace H := Option.bind_eq_some_iff.mp H
  obtain ⟨⟨t179, t180, t181, t182, t183, t184, t185, t186⟩, A40, H⟩ := H
  replace H : ((bonus_condition_extra.f t179 t180 t181 t182 t183 t184 t185 t186 a1_2).bind fun t187 => ((bonus_within.f a0_0 a0_1 a0_2 a0_3 a0_4 a0_5 a0_6 a1_2).bind fun t188 => (if t188 = true then (some (decide ((wrap64 (4 * (wrap64 ((wrap64 (t177 * t177)) + (wrap64 (t178 * t178)))))) ≤ (wrap64 ((wrap64 (a0_4 + t187)) * (wrap64 (a0_4 + t187))))))) else (some false)))) = some r := H
  have A4 := Aside0.mk A40
  clear A40
  replace H := Option.bind_eq_some_iff.mp H
  obtain ⟨t187, A50, H⟩ := H
  replace H : ((bonus_within.f a0_0 a0_1 a0_2 a0_3 a0_4 a0_5 a0_6 a1_2).bind fun t188 => (if t188 = true then (some (decide ((wrap64 (4 * (wrap64 ((wrap64 (t177 * t177)) + (wrap64 (t178 * t178)))))) ≤ (wrap64 ((wrap64 (a0_4 + t187)) * (wrap64 (a0_4 + t187))))))) else (some false))) = some r := H
  have A5 := Aside0.mk A50
  clear A50
  replace H := Option.bind_eq_some_iff.mp H
  obtain ⟨t188, A60, H⟩ := H
  replace H : (if t188 = true then (some (decide ((wrap64 (4 * (wrap64 ((wrap64 (t177 * t177)) + (wrap64 (t178 * t178)))))) ≤ (wrap64 ((wrap64 (a0_4 + t187)) * (wrap64 (a0_4 + t187))))))) else (some false)) = some r := H
  have A6 := Aside0.mk A60
  clear A60
  by_cases c7 : t188 = true
  · subst c7
    have H1 : (some (decide ((wrap64 (4 * (wrap64 ((wrap64 (t177 * t177)) + (wrap64 (t178 * t178)))))) ≤ (wrap64 ((wrap64 (a0_4 + t187)) * (wrap64 (a0_4 + t187))))))) = some r := by rw [if_pos rfl] at H; exact H
    clear H
    have H := H1
    clear H1
    obtain rfl := Option.some.inj H
    go_enter Tryd.func95, Tryd.ntmps95
    try go_wp2_with (first | ((with_reducible refine gate_dst (N := 2) rfl ?_); refine box_event ?hg (N := 2) ?hd (cs := #[.int .i64 a0_0, .int .i64 a0_1, .int .i64 a0_2, .int .i64 a0_3, .int .i64 a0_4, .int .i64 a0_5, .bool a0_6]) (t := 27) ?hr ?_; (case hd => rfl); (case hg => rfl); (case hr => first | (go_simp; done) | (go_simp; rfl)); intro gb175 hg w8 hbox hb; have n0_ := Aside0.mk (below_step (by repeat (first | (with_reducible first | exact HB.out | apply below_alloc | apply pw_below_drewN | apply below_drew1) | exact HB.out)) hb); have n1_ := Aside0.mk (hbox); have n2_ := Aside0.mk ((by rw [hg]; exact (below_size (by repeat (first | (with_reducible first | exact HB.out | apply below_alloc | apply pw_below_drewN | apply below_drew1) | exact HB.out))) : w.heap.size ≤ gb175)); have n3_ := Aside0.mk ((by rw [hg]; exact (below_size (by repeat (first | (with_reducible first | exact HB.out | apply below_alloc | apply pw_below_drewN | apply below_drew1) | exact HB.out))) : w.heap.size ≤ gb175)); clear HB; have HB := n0_; have BK175 := n1_; have GW175 := n2_; have GE175 := n3_; clear n0_ n1_ n2_ n3_; clear hb hbox hg) | ((with_reducible refine gate_dst (N := 3) rfl ?_); refine box_event ?hg (N := 3) ?hd (cs := #[.int .i64 a1_0, .int .i64 a1_1, .int .i64 a1_2]) (t := 68) ?hr ?_; (case hd => rfl); (case hg => rfl); (case hr => first | (go_simp; done) | (go_simp; rfl)); intro gb176 hg w9 hbox hb; have n0_ := Aside0.mk (blk_below (g := gb175) (o := .cells #[.int .i64 a0_0, .int .i64 a0_1, .int .i64 a0_2, .int .i64 a0_3, .int .i64 a0_4, .int .i64 a0_5, .bool a0_6] 27 (0, 0)) (by (with_reducible repeat (first | refine blk_drewN ?_ _ | refine blk_drew ?_ | refine blk_alloc ?_ _)); exact BK175.out) hb); have n1_ := Aside0.mk (below_step (by repeat (first | (with_reducible first | exact HB.out | apply below_alloc | apply pw_below_drewN | apply below_drew1 | refine below_set ?_ GE175.out) | exact HB.out)) hb); have n2_ := Aside0.mk (hbox); have n3_ := Aside0.mk ((by rw [hg]; exact (below_size (by repeat (first | (with_reducible first | exact HB.out | apply below_alloc | apply pw_below_drewN | apply below_drew1 | refine below_set ?_ GE175.out) | exact HB.out))) : w.heap.size ≤ gb176)); have n4_ := Aside0.mk ((by rw [hg]; exact (below_size (by repeat (first | (with_reducible first | exact HB.out | apply below_alloc | apply pw_below_drewN | apply below_drew1 | refine below_set ?_ GE175.out) | exact HB.out))) : w.heap.size ≤ gb176)); have n5_ := Aside0.mk ((by rw [hg]; exact Nat.ne_of_lt (blk_lt (g := gb175) (o := .cells #[.int .i64 a0_0, .int .i64 a0_1, .int .i64 a0_2, .int .i64 a0_3, .int .i64 a0_4, .int .i64 a0_5, .bool a0_6] 27 (0, 0)) (by (with_reducible repeat (first | refine blk_drewN ?_ _ | refine blk_drew ?_ | refine blk_alloc ?_ _)); exact BK175.out)) : gb175 ≠ gb176)); have n6_ := Aside0.mk ((by rw [hg]; exact Nat.ne_of_gt (blk_lt (g := gb175) (o := .cells #[.int .i64 a0_0, .int .i64 a0_1, .int .i64 a0_2, .int .i64 a0_3, .int .i64 a0_4, .int .i64 a0_5, .bool a0_6] 27 (0, 0)) (by (with_reducible repeat (first | refine blk_drewN ?_ _ | refine blk_drew ?_ | refine blk_alloc ?_ _)); exact BK175.out)) : gb176 ≠ gb175)); clear BK175; clear HB; have BK175 := n0_; have HB := n1_; have BK176 := n2_; have GW176 := n3_; have GE176 := n4_; have NB175_176 := n5_; have NB176_175 := n6_; clear n0_ n1_ n2_ n3_ n4_ n5_ n6_; clear hb hbox hg; have hnb10 := NB175_176.out; have hnc10 := NB176_175.out; have hcz11_0 : w9.cell? ⟨gb175, 0, none⟩ = some (.int .i64 a0_0) := (blk_cell BK175.out 0).trans rfl; have hcz11_1 : w9.cell? ⟨gb175, 1, none⟩ = some (.int .i64 a0_1) := (blk_cell BK175.out 1).trans rfl; have hcz11_2 : w9.cell? ⟨gb175, 2, none⟩ = some (.int .i64 a0_2) := (blk_cell BK175.out 2).trans rfl; have hcz11_3 : w9.cell? ⟨gb175, 3, none⟩ = some (.int .i64 a0_3) := (blk_cell BK175.out 3).trans rfl; have hcz11_4 : w9.cell? ⟨gb175, 4, none⟩ = some (.int .i64 a0_4) := (blk_cell BK175.out 4).trans rfl; have hcz11_5 : w9.cell? ⟨gb175, 5, none⟩ = some (.int .i64 a0_5) := (blk_cell BK175.out 5).trans rfl; have hcz11_6 : w9.cell? ⟨gb175, 6, none⟩ = some (.bool a0_6) := (blk_cell BK175.out 6).trans rfl; have hfz11_0 := blk_frozen BK175.out 0; have hfz11_1 := blk_frozen BK175.out 1; have hfz11_2 := blk_frozen BK175.out 2; have hfz11_3 := blk_frozen BK175.out 3; have hfz11_4 := blk_frozen BK175.out 4; have hfz11_5 := blk_frozen BK175.out 5; have hfz11_6 := blk_frozen BK175.out 6; have hcz12_0 : w9.cell? ⟨gb176, 0, none⟩ = some (.int .i64 a1_0) := (blk_cell BK176.out 0).trans rfl; have hcz12_1 : w9.cell? ⟨gb176, 1, none⟩ = some (.int .i64 a1_1) := (blk_cell BK176.out 1).trans rfl; have hcz12_2 : w9.cell? ⟨gb176, 2, none⟩ = some (.int .i64 a1_2) := (blk_cell BK176.out 2).trans rfl; have hfz12_0 := blk_frozen BK176.out 0; have hfz12_1 := blk_frozen BK176.out 1; have hfz12_2 := blk_frozen BK176.out 2) | ((with_reducible refine gate_callee (f := 94) rfl ?_); refine goesL_ (some 11) rfl rfl Tryd.func94 (by kernel_rfl) rfl #[.agg #[.int .i64 a0_0, .int .i64 a0_1, .int .i64 a0_2, .int .i64 a0_3, .int .i64 a0_4, .int .i64 a0_5, .bool a0_6], .agg #[.int .i64 a1_0, .int .i64 a1_1, .int .i64 a1_2]] rfl (by (try simp only [List.map_toArray, List.map_cons, List.map_nil]); first | done | rfl | (simp only [List.length_drop, List.length_take]; rfl)) ?_; (with_reducible refine (bonus_gap.calls a0_0 a0_1 a0_2 a0_3 a0_4 a0_5 a0_6 a1_0 a1_1 a1_2 t177 t178 _ A3.out).mono ?_); rintro e w13 ⟨rfl, hb⟩; refine ⟨_, rfl, ?_⟩; have n0_ := Aside0.mk (blk_below (g := gb175) (o := .cells #[.int .i64 a0_0, .int .i64 a0_1, .int .i64 a0_2, .int .i64 a0_3, .int .i64 a0_4, .int .i64 a0_5, .bool a0_6] 27 (0, 0)) (by (with_reducible repeat (first | refine blk_drewN ?_ _ | refine blk_drew ?_ | refine blk_alloc ?_ _)); exact BK175.out) hb); have n1_ := Aside0.mk (blk_below (g := gb176) (o := .cells #[.int .i64 a1_0, .int .i64 a1_1, .int .i64 a1_2] 68 (0, 0)) (by (with_reducible repeat (first | refine blk_drewN ?_ _ | refine blk_drew ?_ | refine blk_alloc ?_ _)); exact BK176.out) hb); have n2_ := Aside0.mk (below_step (by repeat (first | (with_reducible first | exact HB.out | apply below_alloc | apply pw_below_drewN | apply below_drew1 | refine below_set ?_ GE175.out | refine below_set ?_ GE176.out) | exact HB.out)) hb); clear BK175; clear BK176; clear HB; have BK175 := n0_; have BK176 := n1_; have HB := n2_; clear n0_ n1_ n2_; (try clear hb); (try clear hb2); (try clear hk); (try clear hi)))
    have n0_ := Aside0.mk (blk_drew BK175.out)
    have n1_ := Aside0.mk (blk_drew BK176.out)
    have n2_ := Aside0.mk (below_drew1 HB.out)
    clear BK175
    clear BK176
    clear HB
    have BK175 := n0_
    have BK176 := n1_
    have HB := n2_
    clear n0_ n1_ n2_
    refine start_ (n := 9) (S := fun w' => w'.cell? ⟨gb175, 0, none⟩ = some (.int .i64 a0_0) ∧ w'.cell? ⟨gb175, 1, none⟩ = some (.int .i64 a0_1) ∧ w'.cell? ⟨gb175, 2, none⟩ = some (.int .i64 a0_2) ∧ w'.cell? ⟨gb175, 3, none⟩ = some (.int .i64 a0_3) ∧ w'.cell? ⟨gb175, 4, none⟩ = some (.int .i64 a0_4) ∧ w'.cell? ⟨gb175, 5, none⟩ = some (.int .i64 a0_5) ∧ w'.cell? ⟨gb175, 6, none⟩ = some (.bool a0_6) ∧ w'.cell? ⟨gb176, 0, none⟩ = some (.int .i64 a1_0) ∧ w'.cell? ⟨gb176, 1, none⟩ = some (.int .i64 a1_1) ∧ w'.cell? ⟨gb176, 2, none⟩ = some (.int .i64 a1_2)) (ds := []) #[false, false, false, false, false, false, false, false, false] (by kernel_rfl) rfl rfl ⟨(blk_cell BK175.out 0).trans rfl, (blk_cell BK175.out 1).trans rfl, (blk_cell BK175.out 2).trans rfl, (blk_cell BK175.out 3).trans rfl, (blk_cell BK175.out 4).trans rfl, (blk_cell BK175.out 5).trans rfl, (blk_cell BK175.out 6).trans rfl, (blk_cell BK176.out 0).trans rfl, (blk_cell BK176.out 1).trans rfl, (blk_cell BK176.out 2).trans rfl⟩ (fun hHeld => ?_); refine with_tabW bonus_good.tab2 bonus_good.bits2 (fun HT_ HW_ => ?_)
    generalize w13.drew = w14 at BK175 BK176 HB hHeld ⊢
    refine pure_ (i := 0) (N := some 14) (v := ?_) (a' := ?_) #[true, false, false, false, false, false, false, false, false] rfl rfl (any_of HT_.out (by kernel_rfl)) (fun _ _ _ h => h) (Or.inl ⟨by rfl, ?_⟩) ?_ ?_
    rotate_left
    · intro w'
      go_simp
      with_reducible rfl
    rotate_left
    · simp only [Act.put, List.setIfInBounds_toArray, List.set_cons_zero, List.set_cons_succ, i64_w, i32_w]
      rfl
    refine pure_ (i := 4) (N := some 18) (v := ?_) (a' := ?_) #[true, false, false, false, true, false, false, false, false] rfl rfl (any_of HT_.out (by kernel_rfl)) (fun _ _ _ h => h) (Or.inl ⟨by rfl, ?_⟩) ?_ ?_
    rotate_left
    · intro w'
      go_simp
      with_reducible rfl
    rotate_left
    · simp only [Act.put, List.setIfInBounds_toArray, List.set_cons_zero, List.set_cons_succ, i64_w, i32_w]
      rfl
    refine take_ (i := 1) (N := some 15) (v := ?_) (a' := ?_) #[true, true, false, false, true, false, false, false, false] rfl rfl (take_ofW HT_.out HW_.out (by kernel_rfl)) (fun _ _ _ h => h) (Or.inl ⟨by rfl, ?_⟩) hHeld ?_ ?_
    rotate_left
    · rintro w' ⟨s0, s1, s2, s3, s4, s5, s6, s7, s8, s9⟩
      go_simp
      with_reducible rfl
    rotate_left
    · simp only [Act.put, List.setIfInBounds_toArray, List.set_cons_zero, List.set_cons_succ, i64_w, i32_w]
      rfl
    refine take_ (i := 2) (N := some 16) (v := ?_) (a' := ?_) #[true, true, true, false, true, false, false, false, false] rfl rfl (take_ofW HT_.out HW_.out (by kernel_rfl)) (fun _ _ _ h => h) (Or.inl ⟨by rfl, ?_⟩) hHeld ?_ ?_
    rotate_left
    · rintro w' ⟨s0, s1, s2, s3, s4, s5, s6, s7, s8, s9⟩
      go_simp
      with_reducible rfl
    rotate_left
    · simp only [Act.put, List.setIfInBounds_toArray, List.set_cons_zero, List.set_cons_succ, i64_w, i32_w]
      rfl
    refine take_ (i := 5) (N := some 19) (v := ?_) (a' := ?_) #[true, true, true, false, true, true, false, false, false] rfl rfl (take_ofW HT_.out HW_.out (by kernel_rfl)) (fun _ _ _ h => h) (Or.inl ⟨by rfl, ?_⟩) hHeld ?_ ?_
    rotate_left
    · rintro w' ⟨s0, s1, s2, s3, s4, s5, s6, s7, s8, s9⟩
      go_simp
      with_reducible rfl
    rotate_left
    · simp only [Act.put, List.setIfInBounds_toArray, List.set_cons_zero, List.set_cons_succ, i64_w, i32_w]
      rfl
    refine one_ (i := 3) (N := some 17) #[true, true, true, true, true, true, false, false, false] rfl rfl (one_of HT_.out (by kernel_rfl)) (by decide) (fun K hK => ?_)
    refine goes_ Tryd.func67 (by kernel_rfl) rfl #[.agg #[.int .i64 a0_0, .int .i64 a0_1, .int .i64 a0_2, .int .i64 a0_3, .int .i64 a0_4, .int .i64 a0_5, .bool a0_6]] (by rfl) rfl rfl (by (try simp only [List.map_toArray, List.map_cons, List.map_nil]); first | done | rfl | (simp only [List.length_drop, List.length_take]; rfl)) ?_
    with_reducible refine (bonus_of.calls a0_0 a0_1 a0_2 a0_3 a0_4 a0_5 a0_6 t179 t180 t181 t182 t183 t184 t185 t186 _ A4.out (by exact sig_below HS.out (by repeat (first | (with_reducible first | exact HB.out | apply below_alloc | apply pw_below_drewN | apply below_drew1 | refine below_set ?_ GE175.out | refine below_set ?_ GE176.out) | exact HB.out)))).mono ?_
    rintro e w15 ⟨rfl, hb⟩
    refine ⟨_, rfl, ?_⟩
    have n0_ := Aside0.mk (blk_below (g := gb175) (o := .cells #[.int .i64 a0_0, .int .i64 a0_1, .int .i64 a0_2, .int .i64 a0_3, .int .i64 a0_4, .int .i64 a0_5, .bool a0_6] 27 (0, 0)) (by (with_reducible repeat (first | refine blk_drewN ?_ _ | refine blk_drew ?_ | refine blk_alloc ?_ _)); exact BK175.out) hb)
    have n1_ := Aside0.mk (blk_below (g := gb176) (o := .cells #[.int .i64 a1_0, .int .i64 a1_1, .int .i64 a1_2] 68 (0, 0)) (by (with_reducible repeat (first | refine blk_drewN ?_ _ | refine blk_drew ?_ | refine blk_alloc ?_ _)); exact BK176.out) hb)
    have n2_ := Aside0.mk (below_step (by repeat (first | (with_reducible first | exact HB.out | apply below_alloc | apply pw_below_drewN | apply below_drew1 | refine below_set ?_ GE175.out | refine below_set ?_ GE176.out) | exact HB.out)) hb)
    clear BK175
    clear BK176
    clear HB
    have BK175 := n0_
    have BK176 := n1_
    have HB := n2_
    clear n0_ n1_ n2_
    (try clear hb)
    (try clear hb2)
    (try clear hk)
    (try clear hi)
    refine hK.out _ _ ⟨(blk_cell BK175.out 0).trans rfl, (blk_cell BK175.out 1).trans rfl, (blk_cell BK175.out 2).trans rfl, (blk_cell BK175.out 3).trans rfl, (blk_cell BK175.out 4).trans rfl, (blk_cell BK175.out 5).trans rfl, (blk_cell BK175.out 6).trans rfl, (blk_cell BK176.out 0).trans rfl, (blk_cell BK176.out 1).trans rfl, (blk_cell BK176.out 2).trans rfl⟩ (fun hHeld => ?_)
    clear hK K
    refine norm_ (a' := ?_) ?_ ?_
    rotate_left
    · show Act.put _ (some 17) _ = _
      simp only [Act.put, List.setIfInBounds_toArray, List.set_cons_zero, List.set_cons_succ, i64_w, i32_w]
      rfl
    refine one_ (i := 6) (N := some 20) #[true, true, true, true, true, true, true, false, false] rfl rfl (one_of HT_.out (by kernel_rfl)) (by decide) (fun K hK => ?_)
    refine goes_ Tryd.func77 (by kernel_rfl) rfl #[.agg #[.int .i64 t179, .int .i64 t180, .int .i64 t181, .int .i64 t182, .int .i64 t183, .int .i64 t184, .bool t185, .int .i64 t186], .int .i64 a1_2] (by rfl) rfl rfl (by (try simp only [List.map_toArray, List.map_cons, List.map_nil]); first | done | rfl | (simp only [List.length_drop, List.length_take]; rfl)) ?_
    with_reducible refine (bonus_condition_extra.calls t179 t180 t181 t182 t183 t184 t185 t186 a1_2 t187 _ A5.out).mono ?_
    rintro e w16 ⟨rfl, hb⟩
    refine ⟨_, rfl, ?_⟩
    have n0_ := Aside0.mk (blk_below (g := gb175) (o := .cells #[.int .i64 a0_0, .int .i64 a0_1, .int .i64 a0_2, .int .i64 a0_3, .int .i64 a0_4, .int .i64 a0_5, .bool a0_6] 27 (0, 0)) (by (with_reducible repeat (first | refine blk_drewN ?_ _ | refine blk_drew ?_ | refine blk_alloc ?_ _)); exact BK175.out) hb)
    have n1_ := Aside0.mk (blk_below (g := gb176) (o := .cells #[.int .i64 a1_0, .int .i64 a1_1, .int .i64 a1_2] 68 (0, 0)) (by (with_reducible repeat (first | refine blk_drewN ?_ _ | refine blk_drew ?_ | refine blk_alloc ?_ _)); exact BK176.out) hb)
    have n2_ := Aside0.mk (below_step (by repeat (first | (with_reducible first | exact HB.out | apply below_alloc | apply pw_below_drewN | apply below_drew1 | refine below_set ?_ GE175.out | refine below_set ?_ GE176.out) | exact HB.out)) hb)
    clear BK175
    clear BK176
    clear HB
    have BK175 := n0_
    have BK176 := n1_
    have HB := n2_
    clear n0_ n1_ n2_
    (try clear hb)
    (try clear hb2)
    (try clear hk)
    (try clear hi)
    refine hK.out _ _ ⟨(blk_cell BK175.out 0).trans rfl, (blk_cell BK175.out 1).trans rfl, (blk_cell BK175.out 2).trans rfl, (blk_cell BK175.out 3).trans rfl, (blk_cell BK175.out 4).trans rfl, (blk_cell BK175.out 5).trans rfl, (blk_cell BK175.out 6).trans rfl, (blk_cell BK176.out 0).trans rfl, (blk_cell BK176.out 1).trans rfl, (blk_cell BK176.out 2).trans rfl⟩ (fun hHeld => ?_)
    clear hK K
    refine norm_ (a' := ?_) ?_ ?_
    rotate_left
    · show Act.put _ (some 20) _ = _
      simp only [Act.put, List.setIfInBounds_toArray, List.set_cons_zero, List.set_cons_succ, i64_w, i32_w]
      rfl
    refine pure_ (i := 7) (N := some 21) (v := ?_) (a' := ?_) #[true, true, true, true, true, true, true, true, false] rfl rfl (any_of HT_.out (by kernel_rfl)) (fun _ _ _ h => h) (Or.inl ⟨by rfl, ?_⟩) ?_ ?_
    rotate_left
    · intro w'
      go_simp
      with_reducible rfl
    rotate_left
    · simp only [Act.put, List.setIfInBounds_toArray, List.set_cons_zero, List.set_cons_succ, i64_w, i32_w]
      rfl
    refine pure_ (i := 8) (N := some 7) (v := ?_) (a' := ?_) #[true, true, true, true, true, true, true, true, true] rfl rfl (any_of HT_.out (by kernel_rfl)) (fun _ _ _ h => h) (Or.inl ⟨by rfl, ?_⟩) ?_ ?_
    rotate_left
    · intro w'
      go_simp
      with_reducible rfl
    rotate_left
    · simp only [Act.put, List.setIfInBounds_toArray, List.set_cons_zero, List.set_cons_succ, i64_w, i32_w]
      rfl
    refine done_ (done_of HT_.out (by kernel_rfl)) ?_
    have hcz17_0 : w16.cell? ⟨gb175, 0, none⟩ = some (.int .i64 a0_0) := (blk_cell BK175.out 0).trans rfl
    have hcz17_1 : w16.cell? ⟨gb175, 1, none⟩ = some (.int .i64 a0_1) := (blk_cell BK175.out 1).trans rfl
    have hcz17_2 : w16.cell? ⟨gb175, 2, none⟩ = some (.int .i64 a0_2) := (blk_cell BK175.out 2).trans rfl
    have hcz17_3 : w16.cell? ⟨gb175, 3, none⟩ = some (.int .i64 a0_3) := (blk_cell BK175.out 3).trans rfl
    have hcz17_4 : w16.cell? ⟨gb175, 4, none⟩ = some (.int .i64 a0_4) := (blk_cell BK175.out 4).trans rfl
    have hcz17_5 : w16.cell? ⟨gb175, 5, none⟩ = some (.int .i64 a0_5) := (blk_cell BK175.out 5).trans rfl
    have hcz17_6 : w16.cell? ⟨gb175, 6, none⟩ = some (.bool a0_6) := (blk_cell BK175.out 6).trans rfl
    have hfz17_0 := blk_frozen BK175.out 0
    have hfz17_1 := blk_frozen BK175.out 1
    have hfz17_2 := blk_frozen BK175.out 2
    have hfz17_3 := blk_frozen BK175.out 3
    have hfz17_4 := blk_frozen BK175.out 4
    have hfz17_5 := blk_frozen BK175.out 5
    have hfz17_6 := blk_frozen BK175.out 6
    have hcz18_0 : w16.cell? ⟨gb176, 0, none⟩ = some (.int .i64 a1_0) := (blk_cell BK176.out 0).trans rfl
    have hcz18_1 : w16.cell? ⟨gb176, 1, none⟩ = some (.int .i64 a1_1) := (blk_cell BK176.out 1).trans rfl
    have hcz18_2 : w16.cell? ⟨gb176, 2, none⟩ = some (.int .i64 a1_2) := (blk_cell BK176.out 2).trans rfl
    have hfz18_0 := blk_frozen BK176.out 0
    have hfz18_1 := blk_frozen BK176.out 1
    have hfz18_2 := blk_frozen BK176.out 2
    try go_wp2_with (first | ((with_reducible refine gate_callee (f := 76) rfl ?_); refine goesL_ (some 25) rfl rfl Tryd.func76 (by kernel_rfl) rfl #[.agg #[.int .i64 a0_0, .int .i64 a0_1, .int .i64 a0_2, .int .i64 a0_3, .int .i64 a0_4, .int .i64 a0_5, .bool a0_6], .int .i64 a1_2] rfl (by (try simp only [List.map_toArray, List.map_cons, List.map_nil]); first | done | rfl | (simp only [List.length_drop, List.length_take]; rfl)) ?_; (with_reducible refine (bonus_within.calls a0_0 a0_1 a0_2 a0_3 a0_4 a0_5 a0_6 a1_2 true _ A6.out).mono ?_); rintro e w19 ⟨rfl, hb⟩; refine ⟨_, rfl, ?_⟩; have n0_ := Aside0.mk (blk_below (g := gb175) (o := .cells #[.int .i64 a0_0, .int .i64 a0_1, .int .i64 a0_2, .int .i64 a0_3, .int .i64 a0_4, .int .i64 a0_5, .bool a0_6] 27 (0, 0)) (by (with_reducible repeat (first | refine blk_drewN ?_ _ | refine blk_drew ?_ | refine blk_alloc ?_ _)); exact BK175.out) hb); have n1_ := Aside0.mk (blk_below (g := gb176) (o := .cells #[.int .i64 a1_0, .int .i64 a1_1, .int .i64 a1_2] 68 (0, 0)) (by (with_reducible repeat (first | refine blk_drewN ?_ _ | refine blk_drew ?_ | refine blk_alloc ?_ _)); exact BK176.out) hb); have n2_ := Aside0.mk (below_step (by repeat (first | (with_reducible first | exact HB.out | apply below_alloc | apply pw_below_drewN | apply below_drew1 | refine below_set ?_ GE175.out | refine below_set ?_ GE176.out) | exact HB.out)) hb); clear BK175; clear BK176; clear HB; have BK175 := n0_; have BK176 := n1_; have HB := n2_; clear n0_ n1_ n2_; (try clear hb); (try clear hb2); (try clear hk); (try clear hi)))
    go_ret
    exact ⟨by first | rfl | (simp [errW_none, errW_some] <;> rfl) | (simp [*, errW_none, errW_some] <;> rfl), by repeat (first | (with_reducible first | exact HB.out | apply below_alloc | apply pw_below_drewN | apply below_drew1 | refine below_set ?_ GE175.out | refine below_set ?_ GE176.out) | exact HB.out)⟩
  · replace c7 := Bool.eq_false_iff.mpr c7
    subst c7
    have H1 : (some false) = some r := by rw [if_neg (show ¬ (false = true) by decide)] at H; exact H
    clear H
    have H := H1
    clear H1
    obtain rfl := Option.some.inj H
    go_enter Tryd.func95, Tryd.ntmps95
    try go_wp2_with (first | ((with_reducible refine gate_dst (N := 2) rfl ?_); refine box_event ?hg (N := 2) ?hd (cs := #[.int .i64 a0_0, .int .i64 a0_1, .int .i64 a0_2, .int .i64 a0_3, .int .i64 a0_4, .int .i64 a0_5, .bool a0_6]) (t := 27) ?hr ?_; (case hd => rfl); (case hg => rfl); (case hr => first | (go_simp; done) | (go_simp; rfl)); intro gb175 hg w20 hbox hb; have n0_ := Aside0.mk (below_step (by repeat (first | (with_reducible first | exact HB.out | apply below_alloc | apply pw_below_drewN | apply below_drew1) | exact HB.out)) hb); have n1_ := Aside0.mk (hbox); have n2_ := Aside0.mk ((by rw [hg]; exact (below_size (by repeat (first | (with_reducible first | exact HB.out | apply below_alloc | apply pw_below_drewN | apply below_drew1) | exact HB.out))) : w.heap.size ≤ gb175)); have n3_ := Aside0.mk ((by rw [hg]; exact (below_size (by repeat (first | (with_reducible first | exact HB.out | apply below_alloc | apply pw_below_drewN | apply below_drew1) | exact HB.out))) : w.heap.size ≤ gb175)); clear HB; have HB := n0_; have BK175 := n1_; have GW175 := n2_; have GE175 := n3_; clear n0_ n1_ n2_ n3_; clear hb hbox hg) | ((with_reducible refine gate_dst (N := 3) rfl ?_); refine box_event ?hg (N := 3) ?hd (cs := #[.int .i64 a1_0, .int .i64 a1_1, .int .i64 a1_2]) (t := 68) ?hr ?_; (case hd => rfl); (case hg => rfl); (case hr => first | (go_simp; done) | (go_simp; rfl)); intro gb176 hg w21 hbox hb; have n0_ := Aside0.mk (blk_below (g := gb175) (o := .cells #[.int .i64 a0_0, .int .i64 a0_1, .int .i64 a0_2, .int .i64 a0_3, .int .i64 a0_4, .int .i64 a0_5, .bool a0_6] 27 (0, 0)) (by (with_reducible repeat (first | refine blk_drewN ?_ _ | refine blk_drew ?_ | refine blk_alloc ?_ _)); exact BK175.out) hb); have n1_ := Aside0.mk (below_step (by repeat (first | (with_reducible first | exact HB.out | apply below_alloc | apply pw_below_drewN | apply below_drew1 | refine below_set ?_ GE175.out) | exact HB.out)) hb); have n2_ := Aside0.mk (hbox); have n3_ := Aside0.mk ((by rw [hg]; exact (below_size (by repeat (first | (with_reducible first | exact HB.out | apply below_alloc | apply pw_below_drewN | apply below_drew1 | refine below_set ?_ GE175.out) | exact HB.out))) : w.heap.size ≤ gb176)); have n4_ := Aside0.mk ((by rw [hg]; exact (below_size (by repeat (first | (with_reducible first | exact HB.out | apply below_alloc | apply pw_below_drewN | apply below_drew1 | refine below_set ?_ GE175.out) | exact HB.out))) : w.heap.size ≤ gb176)); have n5_ := Aside0.mk ((by rw [hg]; exact Nat.ne_of_lt (blk_lt (g := gb175) (o := .cells #[.int .i64 a0_0, .int .i64 a0_1, .int .i64 a0_2, .int .i64 a0_3, .int .i64 a0_4, .int .i64 a0_5, .bool a0_6] 27 (0, 0)) (by (with_reducible repeat (first | refine blk_drewN ?_ _ | refine blk_drew ?_ | refine blk_alloc ?_ _)); exact BK175.out)) : gb175 ≠ gb176)); have n6_ := Aside0.mk ((by rw [hg]; exact Nat.ne_of_gt (blk_lt (g := gb175) (o := .cells #[.int .i64 a0_0, .int .i64 a0_1, .int .i64 a0_2, .int .i64 a0_3, .int .i64 a0_4, .int .i64 a0_5, .bool a0_6] 27 (0, 0)) (by (with_reducible repeat (first | refine blk_drewN ?_ _ | refine blk_drew ?_ | refine blk_alloc ?_ _)); exact BK175.out)) : gb176 ≠ gb175)); clear BK175; clear HB; have BK175 := n0_; have HB := n1_; have BK176 := n2_; have GW176 := n3_; have GE176 := n4_; have NB175_176 := n5_; have NB176_175 := n6_; clear n0_ n1_ n2_ n3_ n4_ n5_ n6_; clear hb hbox hg; have hnb22 := NB175_176.out; have hnc22 := NB176_175.out; have hcz23_0 : w21.cell? ⟨gb175, 0, none⟩ = some (.int .i64 a0_0) := (blk_cell BK175.out 0).trans rfl; have hcz23_1 : w21.cell? ⟨gb175, 1, none⟩ = some (.int .i64 a0_1) := (blk_cell BK175.out 1).trans rfl; have hcz23_2 : w21.cell? ⟨gb175, 2, none⟩ = some (.int .i64 a0_2) := (blk_cell BK175.out 2).trans rfl; have hcz23_3 : w21.cell? ⟨gb175, 3, none⟩ = some (.int .i64 a0_3) := (blk_cell BK175.out 3).trans rfl; have hcz23_4 : w21.cell? ⟨gb175, 4, none⟩ = some (.int .i64 a0_4) := (blk_cell BK175.out 4).trans rfl; have hcz23_5 : w21.cell? ⟨gb175, 5, none⟩ = some (.int .i64 a0_5) := (blk_cell BK175.out 5).trans rfl; have hcz23_6 : w21.cell? ⟨gb175, 6, none⟩ = some (.bool a0_6) := (blk_cell BK175.out 6).trans rfl; have hfz23_0 := blk_frozen BK175.out 0; have hfz23_1 := blk_frozen BK175.out 1; have hfz23_2 := blk_frozen BK175.out 2; have hfz23_3 := blk_frozen BK175.out 3; have hfz23_4 := blk_frozen BK175.out 4; have hfz23_5 := blk_frozen BK175.out 5; have hfz23_6 := blk_frozen BK175.out 6; have hcz24_0 : w21.cell? ⟨gb176, 0, none⟩ = some (.int .i64 a1_0) := (blk_cell BK176.out 0).trans rfl; have hcz24_1 : w21.cell? ⟨gb176, 1, none⟩ = some (.int .i64 a1_1) := (blk_cell BK176.out 1).trans rfl; have hcz24_2 : w21.cell? ⟨gb176, 2, none⟩ = some (.int .i64 a1_2) := (blk_cell BK176.out 2).trans rfl; have hfz24_0 := blk_frozen BK176.out 0; have hfz24_1 := blk_frozen BK176.out 1; have hfz24_2 := blk_frozen BK176.out 2) | ((with_reducible refine gate_callee (f := 94) rfl ?_); refine goesL_ (some 11) rfl rfl Tryd.func94 (by kernel_rfl) rfl #[.agg #[.int .i64 a0_0, .int .i64 a0_1, .int .i64 a0_2, .int .i64 a0_3, .int .i64 a0_4, .int .i64 a0_5, .bool a0_6], .agg #[.int .i64 a1_0, .int .i64 a1_1, .int .i64 a1_2]] rfl (by (try simp only [List.map_toArray, List.map_cons, List.map_nil]); first | done | rfl | (simp only [List.length_drop, List.length_take]; rfl)) ?_; (with_reducible refine (bonus_gap.calls a0_0 a0_1 a0_2 a0_3 a0_4 a0_5 a0_6 a1_0 a1_1 a1_2 t177 t178 _ A3.out).mono ?_); rintro e w25 ⟨rfl, hb⟩; refine ⟨_, rfl, ?_⟩; have n0_ := Aside0.mk (blk_below (g := gb175) (o := .cells #[.int .i64 a0_0, .int .i64 a0_1, .int .i64 a0_2, .int .i64 a0_3, .int .i64 a0_4, .int .i64 a0_5, .bool a0_6] 27 (0, 0)) (by (with_reducible repeat (first | refine blk_drewN ?_ _ | refine blk_drew ?_ | refine blk_alloc ?_ _)); exact BK175.out) hb); have n1_ := Aside0.mk (blk_below (g := gb176) (o := .cells #[.int .i64 a1_0, .int .i64 a1_1, .int .i64 a1_2] 68 (0, 0)) (by (with_reducible repeat (first | refine blk_drewN ?_ _ | refine blk_drew ?_ | refine blk_alloc ?_ _)); exact BK176.out) hb); have n2_ := Aside0.mk (below_step (by repeat (first | (with_reducible first | exact HB.out | apply below_alloc | apply pw_below_drewN | apply below_drew1 | refine below_set ?_ GE175.out | refine below_set ?_ GE176.out) | exact HB.out)) hb); clear BK175; clear BK176; clear HB; have BK175 := n0_; have BK176 := n1_; have HB := n2_; clear n0_ n1_ n2_; (try clear hb); (try clear hb2); (try clear hk); (try clear hi)))
    have n0_ := Aside0.mk (blk_drew BK175.out)
    have n1_ := Aside0.mk (blk_drew BK176.out)
    have n2_ := Aside0.mk (below_drew1 HB.out)
    clear BK175
    clear BK176
    clear HB
    have BK175 := n0_
    have BK176 := n1_
    have HB := n2_
    clear n0_ n1_ n2_
    refine start_ (n := 9) (S := fun w' => w'.cell? ⟨gb175, 0, none⟩ = some (.int .i64 a0_0) ∧ w'.cell? ⟨gb175, 1, none⟩ = some (.int .i64 a0_1) ∧ w'.cell? ⟨gb175, 2, none⟩ = some (.int .i64 a0_2) ∧ w'.cell? ⟨gb175, 3, none⟩ = some (.int .i64 a0_3) ∧ w'.cell? ⟨gb175, 4, none⟩ = some (.int .i64 a0_4) ∧ w'.cell? ⟨gb175, 5, none⟩ = some (.int .i64 a0_5) ∧ w'.cell? ⟨gb175, 6, none⟩ = some (.bool a0_6) ∧ w'.cell? ⟨gb176, 0, none⟩ = some (.int .i64 a1_0) ∧ w'.cell? ⟨gb176, 1, none⟩ = some (.int .i64 a1_1) ∧ w'.cell? ⟨gb176, 2, none⟩ = some (.int .i64 a1_2)) (ds := []) #[false, false, false, false, false, false, false, false, false] (by kernel_rfl) rfl rfl ⟨(blk_cell BK175.out 0).trans rfl, (blk_cell BK175.out 1).trans rfl, (blk_cell BK175.out 2).trans rfl, (blk_cell BK175.out 3).trans rfl, (blk_cell BK175.out 4).trans rfl, (blk_cell BK175.out 5).trans rfl, (blk_cell BK175.out 6).trans rfl, (blk_cell BK176.out 0).trans rfl, (blk_cell BK176.out 1).trans rfl, (blk_cell BK176.out 2).trans rfl⟩ (fun hHeld => ?_); refine with_tabW bonus_good.tab2 bonus_good.bits2 (fun HT_ HW_ => ?_)
    generalize w25.drew = w26 at BK175 BK176 HB hHeld ⊢
    refine pure_ (i := 0) (N := some 14) (v := ?_) (a' := ?_) #[true, false, false, false, false, false, false, false, false] rfl rfl (any_of HT_.out (by kernel_rfl)) (fun _ _ _ h => h) (Or.inl ⟨by rfl, ?_⟩) ?_ ?_
    rotate_left
    · intro w'
      go_simp
      with_reducible rfl
    rotate_left
    · simp only [Act.put, List.setIfInBounds_toArray, List.set_cons_zero, List.set_cons_succ, i64_w, i32_w]
      rfl
    refine pure_ (i := 4) (N := some 18) (v := ?_) (a' := ?_) #[true, false, false, false, true, false, false, false, false] rfl rfl (any_of HT_.out (by kernel_rfl)) (fun _ _ _ h => h) (Or.inl ⟨by rfl, ?_⟩) ?_ ?_
    rotate_left
    · intro w'
      go_simp
      with_reducible rfl
    rotate_left
    · simp only [Act.put, List.setIfInBounds_toArray, List.set_cons_zero, List.set_cons_succ, i64_w, i32_w]
      rfl
    refine take_ (i := 1) (N := some 15) (v := ?_) (a' := ?_) #[true, true, false, false, true, false, false, false, false] rfl rfl (take_ofW HT_.out HW_.out (by kernel_rfl)) (fun _ _ _ h => h) (Or.inl ⟨by rfl, ?_⟩) hHeld ?_ ?_
    rotate_left
    · rintro w' ⟨s0, s1, s2, s3, s4, s5, s6, s7, s8, s9⟩
      go_simp
      with_reducible rfl
    rotate_left
    · simp only [Act.put, List.setIfInBounds_toArray, List.set_cons_zero, List.set_cons_succ, i64_w, i32_w]
      rfl
    refine take_ (i := 2) (N := some 16) (v := ?_) (a' := ?_) #[true, true, true, false, true, false, false, false, false] rfl rfl (take_ofW HT_.out HW_.out (by kernel_rfl)) (fun _ _ _ h => h) (Or.inl ⟨by rfl, ?_⟩) hHeld ?_ ?_
    rotate_left
    · rintro w' ⟨s0, s1, s2, s3, s4, s5, s6, s7, s8, s9⟩
      go_simp
      with_reducible rfl
    rotate_left
    · simp only [Act.put, List.setIfInBounds_toArray, List.set_cons_zero, List.set_cons_succ, i64_w, i32_w]
      rfl
    refine take_ (i := 5) (N := some 19) (v := ?_) (a' := ?_) #[true, true, true, false, true, true, false, false, false] rfl rfl (take_ofW HT_.out HW_.out (by kernel_rfl)) (fun _ _ _ h => h) (Or.inl ⟨by rfl, ?_⟩) hHeld ?_ ?_
    rotate_left
    · rintro w' ⟨s0, s1, s2, s3, s4, s5, s6, s7, s8, s9⟩
      go_simp
      with_reducible rfl
    rotate_left
    · simp only [Act.put, List.setIfInBounds_toArray, List.set_cons_zero, List.set_cons_succ, i64_w, i32_w]
      rfl
    refine one_ (i := 3) (N := some 17) #[true, true, true, true, true, true, false, false, false] rfl rfl (one_of HT_.out (by kernel_rfl)) (by decide) (fun K hK => ?_)
    refine goes_ Tryd.func67 (by kernel_rfl) rfl #[.agg #[.int .i64 a0_0, .int .i64 a0_1, .int .i64 a0_2, .int .i64 a0_3, .int .i64 a0_4, .int .i64 a0_5, .bool a0_6]] (by rfl) rfl rfl (by (try simp only [List.map_toArray, List.map_cons, List.map_nil]); first | done | rfl | (simp only [List.length_drop, List.length_take]; rfl)) ?_
    with_reducible refine (bonus_of.calls a0_0 a0_1 a0_2 a0_3 a0_4 a0_5 a0_6 t179 t180 t181 t182 t183 t184 t185 t186 _ A4.out (by exact sig_below HS.out (by repeat (first | (with_reducible first | exact HB.out | apply below_alloc | apply pw_below_drewN | apply below_drew1 | refine below_set ?_ GE175.out | refine below_set ?_ GE176.out) | exact HB.out)))).mono ?_
    rintro e w27 ⟨rfl, hb⟩
    refine ⟨_, rfl, ?_⟩
    have n0_ := Aside0.mk (blk_below (g := gb175) (o := .cells #[.int .i64 a0_0, .int .i64 a0_1, .int .i64 a0_2, .int .i64 a0_3, .int .i64 a0_4, .int .i64 a0_5, .bool a0_6] 27 (0, 0)) (by (with_reducible repeat (first | refine blk_drewN ?_ _ | refine blk_drew ?_ | refine blk_alloc ?_ _)); exact BK175.out) hb)
    have n1_ := Aside0.mk (blk_below (g := gb176) (o := .cells #[.int .i64 a1_0, .int .i64 a1_1, .int .i64 a1_2] 68 (0, 0)) (by (with_reducible repeat (first | refine blk_drewN ?_ _ | refine blk_drew ?_ | refine blk_alloc ?_ _)); exact BK176.out) hb)
    have n2_ := Aside0.mk (below_step (by repeat (first | (with_reducible first | exact HB.out | apply below_alloc | apply pw_below_drewN | apply below_drew1 | refine below_set ?_ GE175.out | refine below_set ?_ GE176.out) | exact HB.out)) hb)
    clear BK175
    clear BK176
    clear HB
    have BK175 := n0_
    have BK176 := n1_
    have HB := n2_
    clear n0_ n1_ n2_
    (try clear hb)
    (try clear hb2)
    (try clear hk)
    (try clear hi)
    refine hK.out _ _ ⟨(blk_cell BK175.out 0).trans rfl, (blk_cell BK175.out 1).trans rfl, (blk_cell BK175.out 2).trans rfl, (blk_cell BK175.out 3).trans rfl, (blk_cell BK175.out 4).trans rfl, (blk_cell BK175.out 5).trans rfl, (blk_cell BK175.out 6).trans rfl, (blk_cell BK176.out 0).trans rfl, (blk_cell BK176.out 1).trans rfl, (blk_cell BK176.out 2).trans rfl⟩ (fun hHeld => ?_)
    clear hK K
    refine norm_ (a' := ?_) ?_ ?_
    rotate_left
    · show Act.put _ (some 17) _ = _
      simp only [Act.put, List.setIfInBounds_toArray, List.set_cons_zero, List.set_cons_succ, i64_w, i32_w]
      rfl
    refine one_ (i := 6) (N := some 20) #[true, true, true, true, true, true, true, false, false] rfl rfl (one_of HT_.out (by kernel_rfl)) (by decide) (fun K hK => ?_)
    refine goes_ Tryd.func77 (by kernel_rfl) rfl #[.agg #[.int .i64 t179, .int .i64 t180, .int .i64 t181, .int .i64 t182, .int .i64 t183, .int .i64 t184, .bool t185, .int .i64 t186], .int .i64 a1_2] (by rfl) rfl rfl (by (try simp only [List.map_toArray, List.map_cons, List.map_nil]); first | done | rfl | (simp only [List.length_drop, List.length_take]; rfl)) ?_
    with_reducible refine (bonus_condition_extra.calls t179 t180 t181 t182 t183 t184 t185 t186 a1_2 t187 _ A5.out).mono ?_
    rintro e w28 ⟨rfl, hb⟩
    refine ⟨_, rfl, ?_⟩
    have n0_ := Aside0.mk (blk_below (g := gb175) (o := .cells #[.int .i64 a0_0, .int .i64 a0_1, .int .i64 a0_2, .int .i64 a0_3, .int .i64 a0_4, .int .i64 a0_5, .bool a0_6] 27 (0, 0)) (by (with_reducible repeat (first | refine blk_drewN ?_ _ | refine blk_drew ?_ | refine blk_alloc ?_ _)); exact BK175.out) hb)
    have n1_ := Aside0.mk (blk_below (g := gb176) (o := .cells #[.int .i64 a1_0, .int .i64 a1_1, .int .i64 a1_2] 68 (0, 0)) (by (with_reducible repeat (first | refine blk_drewN ?_ _ | refine blk_drew ?_ | refine blk_alloc ?_ _)); exact BK176.out) hb)
    have n2_ := Aside0.mk (below_step (by repeat (first | (with_reducible first | exact HB.out | apply below_alloc | apply pw_below_drewN | apply below_drew1 | refine below_set ?_ GE175.out | refine below_set ?_ GE176.out) | exact HB.out)) hb)
    clear BK175
    clear BK176
    clear HB
    have BK175 := n0_
    have BK176 := n1_
    have HB := n2_
    clear n0_ n1_ n2_
    (try clear hb)
    (try clear hb2)
    (try clear hk)
    (try clear hi)
    refine hK.out _ _ ⟨(blk_cell BK175.out 0).trans rfl, (blk_cell BK175.out 1).trans rfl, (blk_cell BK175.out 2).trans rfl, (blk_cell BK175.out 3).trans rfl, (blk_cell BK175.out 4).trans rfl, (blk_cell BK175.out 5).trans rfl, (blk_cell BK175.out 6).trans rfl, (blk_cell BK176.out 0).trans rfl, (blk_cell BK176.out 1).trans rfl, (blk_cell BK176.out 2).trans rfl⟩ (fun hHeld => ?_)
    clear hK K
    refine norm_ (a' := ?_) ?_ ?_
    rotate_left
    · show Act.put _ (some 20) _ = _
      simp only [Act.put, List.setIfInBounds_toArray, List.set_cons_zero, List.set_cons_succ, i64_w, i32_w]
      rfl
    refine pure_ (i := 7) (N := some 21) (v := ?_) (a' := ?_) #[true, true, true, true, true, true, true, true, false] rfl rfl (any_of HT_.out (by kernel_rfl)) (fun _ _ _ h => h) (Or.inl ⟨by rfl, ?_⟩) ?_ ?_
    rotate_left
    · intro w'
      go_simp
      with_reducible rfl
    rotate_left
    · simp only [Act.put, List.setIfInBounds_toArray, List.set_cons_zero, List.set_cons_succ, i64_w, i32_w]
      rfl
    refine pure_ (i := 8) (N := some 7) (v := ?_) (a' := ?_) #[true, true, true, true, true, true, true, true, true] rfl rfl (any_of HT_.out (by kernel_rfl)) (fun _ _ _ h => h) (Or.inl ⟨by rfl, ?_⟩) ?_ ?_
    rotate_left
    · intro w'
      go_simp
      with_reducible rfl
    rotate_left
    · simp only [Act.put, List.setIfInBounds_toArray, List.set_cons_zero, List.set_cons_succ, i64_w, i32_w]
      rfl
    refine done_ (done_of HT_.out (by kernel_rfl)) ?_
    have hcz29_0 : w28.cell? ⟨gb175, 0, none⟩ = some (.int .i64 a0_0) := (blk_cell BK175.out 0).trans rfl
    have hcz29_1 : w28.cell? ⟨gb175, 1, none⟩ = some (.int .i64 a0_1) := (blk_cell BK175.out 1).trans rfl
    have hcz29_2 : w28.cell? ⟨gb175, 2, none⟩ = some (.int .i64 a0_2) := (blk_cell BK175.out 2).trans rfl
    have hcz29_3 : w28.cell? ⟨gb175, 3, none⟩ = some (.int .i64 a0_3) := (blk_cell BK175.out 3).trans rfl
    have hcz29_4 : w28.cell? ⟨gb175, 4, none⟩ = some (.int .i64 a0_4) := (blk_cell BK175.out 4).trans rfl
    have hcz29_5 : w28.cell? ⟨gb175, 5, none⟩ = some (.int .i64 a0_5) := (blk_cell BK175.out 5).trans rfl
    have hcz29_6 : w28.cell? ⟨gb175, 6, none⟩ = some (.bool a0_6) := (blk_cell BK175.out 6).trans rfl
    have hfz29_0 := blk_frozen BK175.out 0
    have hfz29_1 := blk_frozen BK175.out 1
    have hfz29_2 := blk_frozen BK175.out 2
    have hfz29_3 := blk_frozen BK175.out 3
    have hfz29_4 := blk_frozen BK175.out 4
    have hfz29_5 := blk_frozen BK175.out 5
    have hfz29_6 := blk_frozen BK175.out 6
    have hcz30_0 : w28.cell? ⟨gb176, 0, none⟩ = some (.int .i64 a1_0) := (blk_cell BK176.out 0).trans rfl
    have hcz30_1 : w28.cell? ⟨gb176, 1, none⟩ = some (.int .i64 a1_1) := (blk_cell BK176.out 1).trans rfl
    have hcz30_2 : w28.cell? ⟨gb176, 2, none⟩ = some (.int .i64 a1_2) := (blk_cell BK176.out 2).trans rfl
    have hfz30_0 := blk_frozen BK176.out 0
    have hfz30_1 := blk_frozen BK176.out 1
    have hfz30_2 := blk_frozen BK176.out 2
    try go_wp2_with (first | ((with_reducible refine gate_callee (f := 76) rfl ?_); refine goesL_ (some 25) rfl rfl Tryd.func76 (by kernel_rfl) rfl #[.agg #[.int .i64 a0_0, .int .i64 a0_1, .int .i64 a0_2, .int .i64 a0_3, .int .i64 a0_4, .int .i64 a0_5, .bool a0_6], .int .i64 a1_2] rfl (by (try simp only [List.map_toArray, List.map_cons, List.map_nil]); first | done | rfl | (simp only [List.length_drop, List.length_take]; rfl)) ?_; (with_reducible refine (bonus_within.calls a0_0 a0_1 a0_2 a0_3 a0_4 a0_5 a0_6 a1_2 false _ A6.out).mono ?_); rintro e w31 ⟨rfl, hb⟩; refine ⟨_, rfl, ?_⟩; have n0_ := Aside0.mk (blk_below (g := gb175) (o := .cells #[.int .i64 a0_0, .int .i64 a0_1, .int .i64 a0_2, .int .i64 a0_3, .int .i64 a0_4, .int .i64 a0_5, .bool a0_6] 27 (0, 0)) (by (with_reducible repeat (first | refine blk_drewN ?_ _ | refine blk_drew ?_ | refine blk_alloc ?_ _)); exact BK175.out) hb); have n1_ := Aside0.mk (blk_below (g := gb176) (o := .cells #[.int .i64 a1_0, .int .i64 a1_1, .int .i64 a1_2] 68 (0, 0)) (by (with_reducible repeat (first | refine blk_drewN ?_ _ | refine blk_drew ?_ | refine blk_alloc ?_ _)); exact BK176.out) hb); have n2_ := Aside0.mk (below_step (by repeat (first | (with_reducible first | exact HB.out | apply below_alloc | apply pw_below_drewN | apply below_drew1 | refine below_set ?_ GE175.out | refine below_set ?_ GE176.out) | exact HB.out)) hb); clear BK175; clear BK176; clear HB; have BK175 := n0_; have BK176 := n1_; have HB := n2_; clear n0_ n1_ n2_; (try clear hb); (try clear hb2); (try clear hk); (try clear hi)))
    go_ret
    exact ⟨by first | rfl | (simp [errW_none, errW_some] <;> rfl) | (simp [*, errW_none, errW_some] <;> rfl), by repeat (first | (with_reducible first | exact HB.out | apply below_alloc | apply pw_below_drewN | apply below_drew1 | refine below_set ?_ GE175.out | refine below_set ?_ GE176.out) | exact HB.out)⟩
def bonus_Keeps.f (k : Nat) (a0_0 : Int) (a0_1 : Int) (a0_2 : Int) (a0_3 : Int) (a0_4 : Int) (a0_5 : Int) (a0_6 : Bool) (a1_0 : Int) (a1_1 : Int) (a1_2 : Int) : Option (Bool × Int) := (bonus_both.f k a0_0 a0_1 a0_2 a0_3 a0_4 a0_5 a0_6 a1_0 a1_1 a1_2).bind fun t191 => (if t191 = 0 then ((bonus_good.f a0_0 a0_1 a0_2 a0_3 a0_4 a0_5 a0_6 a1_0 a1_1 a1_2).bind fun t192 => (some (t192, 0))) else (some (false, t191)))
theorem bonus_Keeps.mono : ∀ a0 a1 a2 a3 a4 a5 a6 a7 a8 a9 k, LeO (bonus_Keeps.f k a0 a1 a2 a3 a4 a5 a6 a7 a8 a9) (bonus_Keeps.f (k + 1) a0 a1 a2 a3 a4 a5 a6 a7 a8 a9) := by
  intro a0 a1 a2 a3 a4 a5 a6 a7 a8 a9 k
  unfold bonus_Keeps.f
  repeat' first
      | (with_reducible exact bonus_both.mono _ _ _ _ _ _ _ _ _ _ _)
      | (with_reducible exact LeO.refl _)
      | (with_reducible exact LeO.none _)
      | (with_reducible refine LeO.ite ?_ ?_)
      | (with_reducible refine LeO.bind ?_ (fun _ => ?_))
      | exact bonus_both.mono _ _ _ _ _ _ _ _ _ _ _
      | exact LeO.none _
      | refine LeO.ite ?_ ?_
      | refine LeO.bind ?_ (fun _ => ?_)
set_option maxHeartbeats 8000000 in
set_option maxRecDepth 100000 in
theorem bonus_Keeps.calls (k : Nat) (a0_0 : Int) (a0_1 : Int) (a0_2 : Int) (a0_3 : Int) (a0_4 : Int) (a0_5 : Int) (a0_6 : Bool) (a1_0 : Int) (a1_1 : Int) (a1_2 : Int) (r1 : Bool) (r2 : Int) (w : World) (h : bonus_Keeps.f k a0_0 a0_1 a0_2 a0_3 a0_4 a0_5 a0_6 a1_0 a1_1 a1_2 = some (r1, r2)) (hS : SignsAt w) :
    Calls Tryd.prog 45 #[.agg #[.int .i64 a0_0, .int .i64 a0_1, .int .i64 a0_2, .int .i64 a0_3, .int .i64 a0_4, .int .i64 a0_5, .bool a0_6], .agg #[.int .i64 a1_0, .int .i64 a1_1, .int .i64 a1_2]] w fun e w' => e = .returned (.tuple #[.bool r1, .int .i64 r2]) ∧ Below w.heap.size w w' := by
  have HS := Aside0.mk hS
  clear hS
  have hu27 := Tryd.underlying27
  have hu68 := Tryd.underlying68
  have HB := Aside0.mk (Below.refl w.heap.size w)
  have H : ((bonus_both.f k a0_0 a0_1 a0_2 a0_3 a0_4 a0_5 a0_6 a1_0 a1_1 a1_2).bind fun t191 => (if t191 = 0 then ((bonus_good.f a0_0 a0_1 a0_2 a0_3 a0_4 a0_5 a0_6 a1_0 a1_1 a1_2).bind fun t192 => (some (t192, 0))) else (some (false, t191)))) = some (r1, r2) := h
  clear h
  replace H := Option.bind_eq_some_iff.mp H
  obtain ⟨t191, A30, H⟩ := H
  replace H : (if t191 = 0 then ((bonus_good.f a0_0 a0_1 a0_2 a0_3 a0_4 a0_5 a0_6 a1_0 a1_1 a1_2).bind fun t192 => (some (t192, 0))) else (some (false, t191))) = some (r1, r2) := H
  have A3 := Aside0.mk A30
  clear A30
  by_cases c4 : t191 = 0
  · rw [if_pos c4] at H
    have c4b0 : (t191 == 0) = true := beq_iff_eq.mpr c4
    have c4b1 : (t191 != 0) = false := bne_eq_false_iff_eq.mpr c4
    clear c4
    replace H := Option.bind_eq_some_iff.mp H
    obtain ⟨t192, A50, H⟩ := H
    replace H : (some (t192, 0)) = some (r1, r2) := H
    have A5 := Aside0.mk A50
    clear A50
    simp only [Option.some.injEq, Prod.mk.injEq] at H
    obtain ⟨rfl, rfl⟩ := H
    go_enter Tryd.func45, Tryd.ntmps45
    go_wp2_with (first | ((with_reducible refine gate_dst (N := 2) rfl ?_); refine box_event ?hg (N := 2) ?hd (cs := #[.int .i64 a0_0, .int .i64 a0_1, .int .i64 a0_2, .int .i64 a0_3, .int .i64 a0_4, .int .i64 a0_5, .bool a0_6]) (t := 27) ?hr ?_; (case hd => rfl); (case hg => rfl); (case hr => first | (go_simp; done) | (go_simp; rfl)); intro gb189 hg w6 hbox hb; have n0_ := Aside0.mk (below_step (by repeat (first | (with_reducible first | exact HB.out | apply below_alloc | apply pw_below_drewN | apply below_drew1) | exact HB.out)) hb); have n1_ := Aside0.mk (hbox); have n2_ := Aside0.mk ((by rw [hg]; exact (below_size (by repeat (first | (with_reducible first | exact HB.out | apply below_alloc | apply pw_below_drewN | apply below_drew1) | exact HB.out))) : w.heap.size ≤ gb189)); have n3_ := Aside0.mk ((by rw [hg]; exact (below_size (by repeat (first | (with_reducible first | exact HB.out | apply below_alloc | apply pw_below_drewN | apply below_drew1) | exact HB.out))) : w.heap.size ≤ gb189)); clear HB; have HB := n0_; have BK189 := n1_; have GW189 := n2_; have GE189 := n3_; clear n0_ n1_ n2_ n3_; clear hb hbox hg) | ((with_reducible refine gate_dst (N := 3) rfl ?_); refine box_event ?hg (N := 3) ?hd (cs := #[.int .i64 a1_0, .int .i64 a1_1, .int .i64 a1_2]) (t := 68) ?hr ?_; (case hd => rfl); (case hg => rfl); (case hr => first | (go_simp; done) | (go_simp; rfl)); intro gb190 hg w7 hbox hb; have n0_ := Aside0.mk (blk_below (g := gb189) (o := .cells #[.int .i64 a0_0, .int .i64 a0_1, .int .i64 a0_2, .int .i64 a0_3, .int .i64 a0_4, .int .i64 a0_5, .bool a0_6] 27 (0, 0)) (by (with_reducible repeat (first | refine blk_drewN ?_ _ | refine blk_drew ?_ | refine blk_alloc ?_ _)); exact BK189.out) hb); have n1_ := Aside0.mk (below_step (by repeat (first | (with_reducible first | exact HB.out | apply below_alloc | apply pw_below_drewN | apply below_drew1 | refine below_set ?_ GE189.out) | exact HB.out)) hb); have n2_ := Aside0.mk (hbox); have n3_ := Aside0.mk ((by rw [hg]; exact (below_size (by repeat (first | (with_reducible first | exact HB.out | apply below_alloc | apply pw_below_drewN | apply below_drew1 | refine below_set ?_ GE189.out) | exact HB.out))) : w.heap.size ≤ gb190)); have n4_ := Aside0.mk ((by rw [hg]; exact (below_size (by repeat (first | (with_reducible first | exact HB.out | apply below_alloc | apply pw_below_drewN | apply below_drew1 | refine below_set ?_ GE189.out) | exact HB.out))) : w.heap.size ≤ gb190)); have n5_ := Aside0.mk ((by rw [hg]; exact Nat.ne_of_lt (blk_lt (g := gb189) (o := .cells #[.int .i64 a0_0, .int .i64 a0_1, .int .i64 a0_2, .int .i64 a0_3, .int .i64 a0_4, .int .i64 a0_5, .bool a0_6] 27 (0, 0)) (by (with_reducible repeat (first | refine blk_drewN ?_ _ | refine blk_drew ?_ | refine blk_alloc ?_ _)); exact BK189.out)) : gb189 ≠ gb190)); have n6_ := Aside0.mk ((by rw [hg]; exact Nat.ne_of_gt (blk_lt (g := gb189) (o := .cells #[.int .i64 a0_0, .int .i64 a0_1, .int .i64 a0_2, .int .i64 a0_3, .int .i64 a0_4, .int .i64 a0_5, .bool a0_6] 27 (0, 0)) (by (with_reducible repeat (first | refine blk_drewN ?_ _ | refine blk_drew ?_ | refine blk_alloc ?_ _)); exact BK189.out)) : gb190 ≠ gb189)); clear BK189; clear HB; have BK189 := n0_; have HB := n1_; have BK190 := n2_; have GW190 := n3_; have GE190 := n4_; have NB189_190 := n5_; have NB190_189 := n6_; clear n0_ n1_ n2_ n3_ n4_ n5_ n6_; clear hb hbox hg; have hnb8 := NB189_190.out; have hnc8 := NB190_189.out; have hcz9_0 : w7.cell? ⟨gb189, 0, none⟩ = some (.int .i64 a0_0) := (blk_cell BK189.out 0).trans rfl; have hcz9_1 : w7.cell? ⟨gb189, 1, none⟩ = some (.int .i64 a0_1) := (blk_cell BK189.out 1).trans rfl; have hcz9_2 : w7.cell? ⟨gb189, 2, none⟩ = some (.int .i64 a0_2) := (blk_cell BK189.out 2).trans rfl; have hcz9_3 : w7.cell? ⟨gb189, 3, none⟩ = some (.int .i64 a0_3) := (blk_cell BK189.out 3).trans rfl; have hcz9_4 : w7.cell? ⟨gb189, 4, none⟩ = some (.int .i64 a0_4) := (blk_cell BK189.out 4).trans rfl; have hcz9_5 : w7.cell? ⟨gb189, 5, none⟩ = some (.int .i64 a0_5) := (blk_cell BK189.out 5).trans rfl; have hcz9_6 : w7.cell? ⟨gb189, 6, none⟩ = some (.bool a0_6) := (blk_cell BK189.out 6).trans rfl; have hfz9_0 := blk_frozen BK189.out 0; have hfz9_1 := blk_frozen BK189.out 1; have hfz9_2 := blk_frozen BK189.out 2; have hfz9_3 := blk_frozen BK189.out 3; have hfz9_4 := blk_frozen BK189.out 4; have hfz9_5 := blk_frozen BK189.out 5; have hfz9_6 := blk_frozen BK189.out 6; have hcz10_0 : w7.cell? ⟨gb190, 0, none⟩ = some (.int .i64 a1_0) := (blk_cell BK190.out 0).trans rfl; have hcz10_1 : w7.cell? ⟨gb190, 1, none⟩ = some (.int .i64 a1_1) := (blk_cell BK190.out 1).trans rfl; have hcz10_2 : w7.cell? ⟨gb190, 2, none⟩ = some (.int .i64 a1_2) := (blk_cell BK190.out 2).trans rfl; have hfz10_0 := blk_frozen BK190.out 0; have hfz10_1 := blk_frozen BK190.out 1; have hfz10_2 := blk_frozen BK190.out 2) | ((with_reducible refine gate_callee (f := 93) rfl ?_); refine goesL_ (some 9) rfl rfl Tryd.func93 (by kernel_rfl) rfl #[.agg #[.int .i64 a0_0, .int .i64 a0_1, .int .i64 a0_2, .int .i64 a0_3, .int .i64 a0_4, .int .i64 a0_5, .bool a0_6], .agg #[.int .i64 a1_0, .int .i64 a1_1, .int .i64 a1_2]] rfl (by (try simp only [List.map_toArray, List.map_cons, List.map_nil]); first | done | rfl | (simp only [List.length_drop, List.length_take]; rfl)) ?_; (with_reducible refine (bonus_both.calls k a0_0 a0_1 a0_2 a0_3 a0_4 a0_5 a0_6 a1_0 a1_1 a1_2 t191 _ A3.out).mono ?_); rintro e w11 ⟨rfl, hb⟩; refine ⟨_, rfl, ?_⟩; have n0_ := Aside0.mk (blk_below (g := gb189) (o := .cells #[.int .i64 a0_0, .int .i64 a0_1, .int .i64 a0_2, .int .i64 a0_3, .int .i64 a0_4, .int .i64 a0_5, .bool a0_6] 27 (0, 0)) (by (with_reducible repeat (first | refine blk_drewN ?_ _ | refine blk_drew ?_ | refine blk_alloc ?_ _)); exact BK189.out) hb); have n1_ := Aside0.mk (blk_below (g := gb190) (o := .cells #[.int .i64 a1_0, .int .i64 a1_1, .int .i64 a1_2] 68 (0, 0)) (by (with_reducible repeat (first | refine blk_drewN ?_ _ | refine blk_drew ?_ | refine blk_alloc ?_ _)); exact BK190.out) hb); have n2_ := Aside0.mk (below_step (by repeat (first | (with_reducible first | exact HB.out | apply below_alloc | apply pw_below_drewN | apply below_drew1 | refine below_set ?_ GE189.out | refine below_set ?_ GE190.out) | exact HB.out)) hb); clear BK189; clear BK190; clear HB; have BK189 := n0_; have BK190 := n1_; have HB := n2_; clear n0_ n1_ n2_; (try clear hb); (try clear hb2); (try clear hk); (try clear hi); have hcz12_0 : w11.cell? ⟨gb189, 0, none⟩ = some (.int .i64 a0_0) := (blk_cell BK189.out 0).trans rfl; have hcz12_1 : w11.cell? ⟨gb189, 1, none⟩ = some (.int .i64 a0_1) := (blk_cell BK189.out 1).trans rfl; have hcz12_2 : w11.cell? ⟨gb189, 2, none⟩ = some (.int .i64 a0_2) := (blk_cell BK189.out 2).trans rfl; have hcz12_3 : w11.cell? ⟨gb189, 3, none⟩ = some (.int .i64 a0_3) := (blk_cell BK189.out 3).trans rfl; have hcz12_4 : w11.cell? ⟨gb189, 4, none⟩ = some (.int .i64 a0_4) := (blk_cell BK189.out 4).trans rfl; have hcz12_5 : w11.cell? ⟨gb189, 5, none⟩ = some (.int .i64 a0_5) := (blk_cell BK189.out 5).trans rfl; have hcz12_6 : w11.cell? ⟨gb189, 6, none⟩ = some (.bool a0_6) := (blk_cell BK189.out 6).trans rfl; have hfz12_0 := blk_frozen BK189.out 0; have hfz12_1 := blk_frozen BK189.out 1; have hfz12_2 := blk_frozen BK189.out 2; have hfz12_3 := blk_frozen BK189.out 3; have hfz12_4 := blk_frozen BK189.out 4; have hfz12_5 := blk_frozen BK189.out 5; have hfz12_6 := blk_frozen BK189.out 6; have hcz13_0 : w11.cell? ⟨gb190, 0, none⟩ = some (.int .i64 a1_0) := (blk_cell BK190.out 0).trans rfl; have hcz13_1 : w11.cell? ⟨gb190, 1, none⟩ = some (.int .i64 a1_1) := (blk_cell BK190.out 1).trans rfl; have hcz13_2 : w11.cell? ⟨gb190, 2, none⟩ = some (.int .i64 a1_2) := (blk_cell BK190.out 2).trans rfl; have hfz13_0 := blk_frozen BK190.out 0; have hfz13_1 := blk_frozen BK190.out 1; have hfz13_2 := blk_frozen BK190.out 2) | ((with_reducible refine gate_callee (f := 95) rfl ?_); refine goesL_ (some 15) rfl rfl Tryd.func95 (by kernel_rfl) rfl #[.agg #[.int .i64 a0_0, .int .i64 a0_1, .int .i64 a0_2, .int .i64 a0_3, .int .i64 a0_4, .int .i64 a0_5, .bool a0_6], .agg #[.int .i64 a1_0, .int .i64 a1_1, .int .i64 a1_2]] rfl (by (try simp only [List.map_toArray, List.map_cons, List.map_nil]); first | done | rfl | (simp only [List.length_drop, List.length_take]; rfl)) ?_; (with_reducible refine (bonus_good.calls a0_0 a0_1 a0_2 a0_3 a0_4 a0_5 a0_6 a1_0 a1_1 a1_2 t192 _ A5.out (by exact sig_below HS.out (by repeat (first | (with_reducible first | exact HB.out | apply below_alloc | apply pw_below_drewN | apply below_drew1 | refine below_set ?_ GE189.out | refine below_set ?_ GE190.out) | exact HB.out)))).mono ?_); rintro e w14 ⟨rfl, hb⟩; refine ⟨_, rfl, ?_⟩; have n0_ := Aside0.mk (blk_below (g := gb189) (o := .cells #[.int .i64 a0_0, .int .i64 a0_1, .int .i64 a0_2, .int .i64 a0_3, .int .i64 a0_4, .int .i64 a0_5, .bool a0_6] 27 (0, 0)) (by (with_reducible repeat (first | refine blk_drewN ?_ _ | refine blk_drew ?_ | refine blk_alloc ?_ _)); exact BK189.out) hb); have n1_ := Aside0.mk (blk_below (g := gb190) (o := .cells #[.int .i64 a1_0, .int .i64 a1_1, .int .i64 a1_2] 68 (0, 0)) (by (with_reducible repeat (first | refine blk_drewN ?_ _ | refine blk_drew ?_ | refine blk_alloc ?_ _)); exact BK190.out) hb); have n2_ := Aside0.mk (below_step (by repeat (first | (with_reducible first | exact HB.out | apply below_alloc | apply pw_below_drewN | apply below_drew1 | refine below_set ?_ GE189.out | refine below_set ?_ GE190.out) | exact HB.out)) hb); clear BK189; clear BK190; clear HB; have BK189 := n0_; have BK190 := n1_; have HB := n2_; clear n0_ n1_ n2_; (try clear hb); (try clear hb2); (try clear hk); (try clear hi)))
    go_ret2
    exact ⟨by first | rfl | (simp [errW_none, errW_some] <;> rfl) | (simp [*, errW_none, errW_some] <;> rfl), by repeat (first | (with_reducible first | exact HB.out | apply below_alloc | apply pw_below_drewN | apply below_drew1 | refine below_set ?_ GE189.out | refine below_set ?_ GE190.out) | exact HB.out)⟩
  · rw [if_neg c4] at H
    have c4b0 : (t191 == 0) = false := beq_eq_false_iff_ne.mpr c4
    have c4b1 : (t191 != 0) = true := bne_iff_ne.mpr c4
    simp only [Option.some.injEq, Prod.mk.injEq] at H
    obtain ⟨rfl, rfl⟩ := H
    go_enter Tryd.func45, Tryd.ntmps45
    go_wp2_with (first | ((with_reducible refine gate_dst (N := 2) rfl ?_); refine box_event ?hg (N := 2) ?hd (cs := #[.int .i64 a0_0, .int .i64 a0_1, .int .i64 a0_2, .int .i64 a0_3, .int .i64 a0_4, .int .i64 a0_5, .bool a0_6]) (t := 27) ?hr ?_; (case hd => rfl); (case hg => rfl); (case hr => first | (go_simp; done) | (go_simp; rfl)); intro gb189 hg w15 hbox hb; have n0_ := Aside0.mk (below_step (by repeat (first | (with_reducible first | exact HB.out | apply below_alloc | apply pw_below_drewN | apply below_drew1) | exact HB.out)) hb); have n1_ := Aside0.mk (hbox); have n2_ := Aside0.mk ((by rw [hg]; exact (below_size (by repeat (first | (with_reducible first | exact HB.out | apply below_alloc | apply pw_below_drewN | apply below_drew1) | exact HB.out))) : w.heap.size ≤ gb189)); have n3_ := Aside0.mk ((by rw [hg]; exact (below_size (by repeat (first | (with_reducible first | exact HB.out | apply below_alloc | apply pw_below_drewN | apply below_drew1) | exact HB.out))) : w.heap.size ≤ gb189)); clear HB; have HB := n0_; have BK189 := n1_; have GW189 := n2_; have GE189 := n3_; clear n0_ n1_ n2_ n3_; clear hb hbox hg) | ((with_reducible refine gate_dst (N := 3) rfl ?_); refine box_event ?hg (N := 3) ?hd (cs := #[.int .i64 a1_0, .int .i64 a1_1, .int .i64 a1_2]) (t := 68) ?hr ?_; (case hd => rfl); (case hg => rfl); (case hr => first | (go_simp; done) | (go_simp; rfl)); intro gb190 hg w16 hbox hb; have n0_ := Aside0.mk (blk_below (g := gb189) (o := .cells #[.int .i64 a0_0, .int .i64 a0_1, .int .i64 a0_2, .int .i64 a0_3, .int .i64 a0_4, .int .i64 a0_5, .bool a0_6] 27 (0, 0)) (by (with_reducible repeat (first | refine blk_drewN ?_ _ | refine blk_drew ?_ | refine blk_alloc ?_ _)); exact BK189.out) hb); have n1_ := Aside0.mk (below_step (by repeat (first | (with_reducible first | exact HB.out | apply below_alloc | apply pw_below_drewN | apply below_drew1 | refine below_set ?_ GE189.out) | exact HB.out)) hb); have n2_ := Aside0.mk (hbox); have n3_ := Aside0.mk ((by rw [hg]; exact (below_size (by repeat (first | (with_reducible first | exact HB.out | apply below_alloc | apply pw_below_drewN | apply below_drew1 | refine below_set ?_ GE189.out) | exact HB.out))) : w.heap.size ≤ gb190)); have n4_ := Aside0.mk ((by rw [hg]; exact (below_size (by repeat (first | (with_reducible first | exact HB.out | apply below_alloc | apply pw_below_drewN | apply below_drew1 | refine below_set ?_ GE189.out) | exact HB.out))) : w.heap.size ≤ gb190)); have n5_ := Aside0.mk ((by rw [hg]; exact Nat.ne_of_lt (blk_lt (g := gb189) (o := .cells #[.int .i64 a0_0, .int .i64 a0_1, .int .i64 a0_2, .int .i64 a0_3, .int .i64 a0_4, .int .i64 a0_5, .bool a0_6] 27 (0, 0)) (by (with_reducible repeat (first | refine blk_drewN ?_ _ | refine blk_drew ?_ | refine blk_alloc ?_ _)); exact BK189.out)) : gb189 ≠ gb190)); have n6_ := Aside0.mk ((by rw [hg]; exact Nat.ne_of_gt (blk_lt (g := gb189) (o := .cells #[.int .i64 a0_0, .int .i64 a0_1, .int .i64 a0_2, .int .i64 a0_3, .int .i64 a0_4, .int .i64 a0_5, .bool a0_6] 27 (0, 0)) (by (with_reducible repeat (first | refine blk_drewN ?_ _ | refine blk_drew ?_ | refine blk_alloc ?_ _)); exact BK189.out)) : gb190 ≠ gb189)); clear BK189; clear HB; have BK189 := n0_; have HB := n1_; have BK190 := n2_; have GW190 := n3_; have GE190 := n4_; have NB189_190 := n5_; have NB190_189 := n6_; clear n0_ n1_ n2_ n3_ n4_ n5_ n6_; clear hb hbox hg; have hnb17 := NB189_190.out; have hnc17 := NB190_189.out; have hcz18_0 : w16.cell? ⟨gb189, 0, none⟩ = some (.int .i64 a0_0) := (blk_cell BK189.out 0).trans rfl; have hcz18_1 : w16.cell? ⟨gb189, 1, none⟩ = some (.int .i64 a0_1) := (blk_cell BK189.out 1).trans rfl; have hcz18_2 : w16.cell? ⟨gb189, 2, none⟩ = some (.int .i64 a0_2) := (blk_cell BK189.out 2).trans rfl; have hcz18_3 : w16.cell? ⟨gb189, 3, none⟩ = some (.int .i64 a0_3) := (blk_cell BK189.out 3).trans rfl; have hcz18_4 : w16.cell? ⟨gb189, 4, none⟩ = some (.int .i64 a0_4) := (blk_cell BK189.out 4).trans rfl; have hcz18_5 : w16.cell? ⟨gb189, 5, none⟩ = some (.int .i64 a0_5) := (blk_cell BK189.out 5).trans rfl; have hcz18_6 : w16.cell? ⟨gb189, 6, none⟩ = some (.bool a0_6) := (blk_cell BK189.out 6).trans rfl; have hfz18_0 := blk_frozen BK189.out 0; have hfz18_1 := blk_frozen BK189.out 1; have hfz18_2 := blk_frozen BK189.out 2; have hfz18_3 := blk_frozen BK189.out 3; have hfz18_4 := blk_frozen BK189.out 4; have hfz18_5 := blk_frozen BK189.out 5; have hfz18_6 := blk_frozen BK189.out 6; have hcz19_0 : w16.cell? ⟨gb190, 0, none⟩ = some (.int .i64 a1_0) := (blk_cell BK190.out 0).trans rfl; have hcz19_1 : w16.cell? ⟨gb190, 1, none⟩ = some (.int .i64 a1_1) := (blk_cell BK190.out 1).trans rfl; have hcz19_2 : w16.cell? ⟨gb190, 2, none⟩ = some (.int .i64 a1_2) := (blk_cell BK190.out 2).trans rfl; have hfz19_0 := blk_frozen BK190.out 0; have hfz19_1 := blk_frozen BK190.out 1; have hfz19_2 := blk_frozen BK190.out 2) | ((with_reducible refine gate_callee (f := 93) rfl ?_); refine goesL_ (some 9) rfl rfl Tryd.func93 (by kernel_rfl) rfl #[.agg #[.int .i64 a0_0, .int .i64 a0_1, .int .i64 a0_2, .int .i64 a0_3, .int .i64 a0_4, .int .i64 a0_5, .bool a0_6], .agg #[.int .i64 a1_0, .int .i64 a1_1, .int .i64 a1_2]] rfl (by (try simp only [List.map_toArray, List.map_cons, List.map_nil]); first | done | rfl | (simp only [List.length_drop, List.length_take]; rfl)) ?_; (with_reducible refine (bonus_both.calls k a0_0 a0_1 a0_2 a0_3 a0_4 a0_5 a0_6 a1_0 a1_1 a1_2 t191 _ A3.out).mono ?_); rintro e w20 ⟨rfl, hb⟩; refine ⟨_, rfl, ?_⟩; have n0_ := Aside0.mk (blk_below (g := gb189) (o := .cells #[.int .i64 a0_0, .int .i64 a0_1, .int .i64 a0_2, .int .i64 a0_3, .int .i64 a0_4, .int .i64 a0_5, .bool a0_6] 27 (0, 0)) (by (with_reducible repeat (first | refine blk_drewN ?_ _ | refine blk_drew ?_ | refine blk_alloc ?_ _)); exact BK189.out) hb); have n1_ := Aside0.mk (blk_below (g := gb190) (o := .cells #[.int .i64 a1_0, .int .i64 a1_1, .int .i64 a1_2] 68 (0, 0)) (by (with_reducible repeat (first | refine blk_drewN ?_ _ | refine blk_drew ?_ | refine blk_alloc ?_ _)); exact BK190.out) hb); have n2_ := Aside0.mk (below_step (by repeat (first | (with_reducible first | exact HB.out | apply below_alloc | apply pw_below_drewN | apply below_drew1 | refine below_set ?_ GE189.out | refine below_set ?_ GE190.out) | exact HB.out)) hb); clear BK189; clear BK190; clear HB; have BK189 := n0_; have BK190 := n1_; have HB := n2_; clear n0_ n1_ n2_; (try clear hb); (try clear hb2); (try clear hk); (try clear hi)))
    go_ret2
    exact ⟨by first | rfl | (simp [errW_none, errW_some] <;> rfl) | (simp [*, errW_none, errW_some] <;> rfl), by repeat (first | (with_reducible first | exact HB.out | apply below_alloc | apply pw_below_drewN | apply below_drew1 | refine below_set ?_ GE189.out | refine below_set ?_ GE190.out) | exact HB.out)⟩
end Go.Proofs.YtjemaonejkepcaaDoor.B
