/- Texts of the claim of GaugeNarrows, laid together by a program of this session; what the claim does not reach is cut. In it: words that the kit's print.sh printed, contracts of Go functions printed over the kit's printer, our own laws. Not trusted: Lean checks them. -/
import Derived.Test.YtjemaonejkepcaaDoorZGaugeNarrows3
namespace Go.Proofs.YtjemaonejkepcaaDoor.G
open Go.Proofs.YtjemaonejkepcaaDoor.B
open Go.RowKit Go.Proofs.YtjemaonejkepcaaDoorW.PrintWords Go.Proofs.YtjemaonejkepcaaDoorW.PrintLast Go.Proofs.YtjemaonejkepcaaDoorW.PrintMore
attribute [local go_sem] max2_int min2_int max_two min_two max_three min_three max_four min_four   -- for this text's walks alone
set_option linter.unusedVariables false
set_option linter.unusedSimpArgs false
attribute [local go_sem high] eqA25
def metrolablaw47_Pair.f  : Option ((List (S27))) := some (([(⟨(⟨0, 0⟩ : S23), (⟨100, 110⟩ : S25), 8, 1, false⟩ : S27), (⟨(⟨500, 0⟩ : S23), (⟨50, 60⟩ : S25), 4, 1, true⟩ : S27)] : List (S27)))
set_option maxHeartbeats 8000000 in
set_option maxRecDepth 100000 in
theorem metrolablaw47_Pair.calls  (r : List (S27)) (w : World) (h : metrolablaw47_Pair.f  = some r) :
    Calls Tryd.prog 79 #[] w fun e w' => ∃ v0_ : Value, e = .returned (v0_) ∧ Kd.R k27 27 w' w.heap.size (fun _ => True) v0_ r ∧ Below w.heap.size w w' := by
  have hu25 := Tryd.underlying25
  have hu27 := Tryd.underlying27
  have hu23 := Tryd.underlying23
  have HB := Aside0.mk (Below.refl w.heap.size w)
  have H : (some (([(⟨(⟨0, 0⟩ : S23), (⟨100, 110⟩ : S25), 8, 1, false⟩ : S27), (⟨(⟨500, 0⟩ : S23), (⟨50, 60⟩ : S25), 4, 1, true⟩ : S27)] : List (S27)))) = some r := h
  clear h
  obtain ⟨y170, hy170⟩ : ∃ y_ : List (S27), y_ = (([(⟨(⟨0, 0⟩ : S23), (⟨100, 110⟩ : S25), 8, 1, false⟩ : S27), (⟨(⟨500, 0⟩ : S23), (⟨50, 60⟩ : S25), 4, 1, true⟩ : S27)] : List (S27))) := ⟨_, rfl⟩
  replace H : (some y170) = some r := by first | (rw [hy170]; with_reducible exact H) | (have H2_ := (Option.bind_some _ _).symm.trans H; rw [hy170]; with_reducible exact H2_) | (have H2_ := (Option.bind_some _ _).symm.trans H; with_reducible exact H2_) | with_reducible exact H | (rw [hy170]; exact H) | exact H
  have Ny170 := Aside0.mk hy170
  clear hy170
  obtain rfl := Option.some.inj H
  go_enter Tryd.func79, Tryd.ntmps79
  go_wp2_with (first | ((with_reducible refine gate_dst (N := 6) rfl ?_); refine Kd.R_lit k27 _ 27 ?hg (N := 6) ?hd (xs := ([(⟨(⟨0, 0⟩ : S23), (⟨100, 110⟩ : S25), 8, 1, false⟩ : S27), (⟨(⟨500, 0⟩ : S23), (⟨50, 60⟩ : S25), 4, 1, true⟩ : S27)] : List (S27))) (inner := [.int .i64 0, .int .i64 0, .int .i64 100, .int .i64 110, .int .i64 8, .int .i64 1, .bool false, .int .i64 500, .int .i64 0, .int .i64 50, .int .i64 60, .int .i64 4, .int .i64 1, .bool true]) (ok := fun _ => True) (okp := fun _ => True) ?hr ?hp (fun _ hk => hk) trivial (Below.refl _ _) (Nat.le_refl _) (by simp) ?_; (case hd => rfl); (case hg => rfl); (case hr => first | (go_simp; done) | (go_simp; rfl)); (case hp => exact (Reps.c7 (show Kd.M k27 _ _ _ (⟨(⟨0, 0⟩ : S23), (⟨100, 110⟩ : S25), 8, 1, false⟩ : S27) [.int .i64 0, .int .i64 0, .int .i64 100, .int .i64 110, .int .i64 8, .int .i64 1, .bool false] from (k27_mkM _ _ _ (⟨(⟨0, 0⟩ : S23), (⟨100, 110⟩ : S25), 8, 1, false⟩ : S27) )) (Reps.c7 (show Kd.M k27 _ _ _ (⟨(⟨500, 0⟩ : S23), (⟨50, 60⟩ : S25), 4, 1, true⟩ : S27) [.int .i64 500, .int .i64 0, .int .i64 50, .int .i64 60, .int .i64 4, .int .i64 1, .bool true] from (k27_mkM _ _ _ (⟨(⟨500, 0⟩ : S23), (⟨50, 60⟩ : S25), 4, 1, true⟩ : S27) )) (Reps.none _ _)))); intro v171 w1 ho2 hb hg_ hnew_; clear hg_ hnew_; (first | rw [← Ny170.out] at ho2 | (simp only [Int.reduceToNat] at ho2; rw [← Ny170.out] at ho2)); have n0_ := Aside0.mk (Kd.R_lower ho2 (below_size (by repeat (first | (with_reducible first | exact HB.out | apply below_alloc | apply pw_below_drewN | apply below_drew1) | exact HB.out)))); have n1_ := Aside0.mk (below_step (by repeat (first | (with_reducible first | exact HB.out | apply below_alloc | apply pw_below_drewN | apply below_drew1) | exact HB.out)) hb); clear HB; have HO172 := n0_; have HB := n1_; clear n0_ n1_; clear hb ho2))
  go_ret
  exact ⟨_, by first | rfl | (simp [errW_none, errW_some] <;> rfl) | (simp [*, errW_none, errW_some] <;> rfl), by (with_reducible repeat (first | apply Kd.R_alloc | apply Kd.R_drewN | apply Kd.R_drew)); exact HO172.out, by repeat (first | (with_reducible first | exact HB.out | apply below_alloc | apply pw_below_drewN | apply below_drew1) | exact HB.out)⟩
mutual
def metrolablaw47_awake.j0 : Nat → List (S27) → List (S104) → Bool → Option (Bool)
  | 0, _, _, _ => none
  | k + 1, x1, x2, x50 => if x50 = true then (some false) else ((gauge_Loss.f k x1 x2).bind fun bt184 => ((gauge_Made.f k x2 true).bind fun bt186 => (if bt184.2 = 0 then (if bt186.2 = 0 then (if bt184.1 = 5 then ((gauge_Safe.f k x1 x2).bind fun t190 => (if t190 = 0 then (metrolablaw47_awake.j1 k x1 bt186.1 ((bt186.1.length : Int) != 2)) else (metrolablaw47_awake.j1 k x1 bt186.1 true))) else (metrolablaw47_awake.j1 k x1 bt186.1 true)) else (metrolablaw47_awake.j1 k x1 bt186.1 true)) else (metrolablaw47_awake.j1 k x1 bt186.1 true))))
def metrolablaw47_awake.j1 : Nat → List (S27) → List (S56) → Bool → Option (Bool)
  | 0, _, _, _ => none
  | k + 1, x1, x5, x82 => if x82 = true then (some false) else (if 0 < (x5.length : Int) then ((some (x5.set (0 : Int).toNat (⟨(⟨(rd_T56 x5 0).f0.f0, (rd_T56 x5 0).f0.f1⟩ : S23), (rd_T56 x5 0).f1, 91⟩ : S56) : List (S56))).bind fun y191 => (if 1 < (x5.length : Int) then ((gauge_Worn.f k x1 (y191.set (1 : Int).toNat (⟨(⟨(rd_T56 y191 1).f0.f0, (rd_T56 y191 1).f0.f1⟩ : S23), (rd_T56 y191 1).f1, 64⟩ : S56))).bind fun bt193 => (if bt193.2 = 0 then ((slices_Equal_int_int.f k bt193.1 (([0] : List Int))).bind fun t200 => (some t200)) else (some false))) else (none))) else (none))
end
def metrolablaw47_awake.f (k : Nat)  : Option (Bool) := (metrolablaw47_Pair.f).bind fun t173 => ((gauge_Design.f k t173 2 3).bind fun bt176 => (if bt176.2 = 0 then (if (bt176.1.length : Int) = 2 then (if 0 < (bt176.1.length : Int) then (if (!(((rd_T104 bt176.1 0).f2.f0) == 94) || (!(((rd_T104 bt176.1 0).f2.f1) == 97))) = true then (metrolablaw47_awake.j0 k t173 bt176.1 true) else (if (rd_T104 bt176.1 0).f1 = true then (metrolablaw47_awake.j0 k t173 bt176.1 true) else (if 1 < (bt176.1.length : Int) then (if (!(((rd_T104 bt176.1 1).f2.f0) == 59) || (!(((rd_T104 bt176.1 1).f2.f1) == 62))) = true then (metrolablaw47_awake.j0 k t173 bt176.1 true) else (metrolablaw47_awake.j0 k t173 bt176.1 (!((rd_T104 bt176.1 1).f1)))) else (none)))) else (none)) else (metrolablaw47_awake.j0 k t173 bt176.1 true)) else (metrolablaw47_awake.j0 k t173 bt176.1 true)))
theorem metrolablaw47_awake.mono_l : ∀ k, (∀ y0 y1 y2, LeO (metrolablaw47_awake.j0 k y0 y1 y2) (metrolablaw47_awake.j0 (k + 1) y0 y1 y2)) ∧ (∀ y0 y1 y2, LeO (metrolablaw47_awake.j1 k y0 y1 y2) (metrolablaw47_awake.j1 (k + 1) y0 y1 y2))
  | 0 => ⟨fun _ _ _ r h => by simp [metrolablaw47_awake.j0] at h, fun _ _ _ r h => by simp [metrolablaw47_awake.j1] at h⟩
  | k + 1 => by
    obtain ⟨ih0, ih1⟩ := metrolablaw47_awake.mono_l k
    refine ⟨?_, ?_⟩
    · intro y0 y1 y2
      unfold metrolablaw47_awake.j0
      repeat' first
      | (with_reducible exact ih0 _ _ _)
      | (with_reducible exact ih1 _ _ _)
      | (with_reducible exact gauge_Design.mono _ _ _ _)
      | (with_reducible exact gauge_Loss.mono _ _ _)
      | (with_reducible exact gauge_Made.mono _ _ _)
      | (with_reducible exact gauge_Safe.mono _ _ _)
      | (with_reducible exact gauge_Worn.mono _ _ _)
      | (with_reducible exact slices_Equal_int_int.mono _ _ _)
      | (with_reducible exact LeO.refl _)
      | (with_reducible exact LeO.none _)
      | (with_reducible refine LeO.ite ?_ ?_)
      | (with_reducible refine LeO.bind ?_ (fun _ => ?_))
      | exact ih0 _ _ _
      | exact ih1 _ _ _
      | exact gauge_Design.mono _ _ _ _
      | exact gauge_Loss.mono _ _ _
      | exact gauge_Made.mono _ _ _
      | exact gauge_Safe.mono _ _ _
      | exact gauge_Worn.mono _ _ _
      | exact slices_Equal_int_int.mono _ _ _
      | exact LeO.none _
      | refine LeO.ite ?_ ?_
      | refine LeO.bind ?_ (fun _ => ?_)
    · intro y0 y1 y2
      unfold metrolablaw47_awake.j1
      repeat' first
      | (with_reducible exact ih0 _ _ _)
      | (with_reducible exact ih1 _ _ _)
      | (with_reducible exact gauge_Design.mono _ _ _ _)
      | (with_reducible exact gauge_Loss.mono _ _ _)
      | (with_reducible exact gauge_Made.mono _ _ _)
      | (with_reducible exact gauge_Safe.mono _ _ _)
      | (with_reducible exact gauge_Worn.mono _ _ _)
      | (with_reducible exact slices_Equal_int_int.mono _ _ _)
      | (with_reducible exact LeO.refl _)
      | (with_reducible exact LeO.none _)
      | (with_reducible refine LeO.ite ?_ ?_)
      | (with_reducible refine LeO.bind ?_ (fun _ => ?_))
      | exact ih0 _ _ _
      | exact ih1 _ _ _
      | exact gauge_Design.mono _ _ _ _
      | exact gauge_Loss.mono _ _ _
      | exact gauge_Made.mono _ _ _
      | exact gauge_Safe.mono _ _ _
      | exact gauge_Worn.mono _ _ _
      | exact slices_Equal_int_int.mono _ _ _
      | exact LeO.none _
      | refine LeO.ite ?_ ?_
      | refine LeO.bind ?_ (fun _ => ?_)
theorem metrolablaw47_awake.mono : ∀ k, LeO (metrolablaw47_awake.f k ) (metrolablaw47_awake.f (k + 1) ) := by
  intro  k
  obtain ⟨ih0, ih1⟩ := metrolablaw47_awake.mono_l k
  unfold metrolablaw47_awake.f
  repeat' first
      | (with_reducible exact ih0 _ _ _)
      | (with_reducible exact ih1 _ _ _)
      | (with_reducible exact gauge_Design.mono _ _ _ _)
      | (with_reducible exact gauge_Loss.mono _ _ _)
      | (with_reducible exact gauge_Made.mono _ _ _)
      | (with_reducible exact gauge_Safe.mono _ _ _)
      | (with_reducible exact gauge_Worn.mono _ _ _)
      | (with_reducible exact slices_Equal_int_int.mono _ _ _)
      | (with_reducible exact LeO.refl _)
      | (with_reducible exact LeO.none _)
      | (with_reducible refine LeO.ite ?_ ?_)
      | (with_reducible refine LeO.bind ?_ (fun _ => ?_))
      | exact ih0 _ _ _
      | exact ih1 _ _ _
      | exact gauge_Design.mono _ _ _ _
      | exact gauge_Loss.mono _ _ _
      | exact gauge_Made.mono _ _ _
      | exact gauge_Safe.mono _ _ _
      | exact gauge_Worn.mono _ _ _
      | exact slices_Equal_int_int.mono _ _ _
      | exact LeO.none _
      | refine LeO.ite ?_ ?_
      | refine LeO.bind ?_ (fun _ => ?_)
set_option maxHeartbeats 8000000 in
set_option maxRecDepth 100000 in
theorem metrolablaw47_awake.calls (k : Nat)  (r : Bool) (w : World) (h : metrolablaw47_awake.f k  = some r) (hS : SignsAt w) :
    Calls Tryd.prog 30 #[] w fun e w' => e = .returned (.bool r) ∧ Below w.heap.size w w' := by
  have HS := Aside0.mk hS
  clear hS
  have hu44 := Tryd.underlying44
  have hu25 := Tryd.underlying25
  have HB := Aside0.mk (Below.refl w.heap.size w)
  have H : ((metrolablaw47_Pair.f).bind fun t173 => ((gauge_Design.f k t173 2 3).bind fun bt176 => (if bt176.2 = 0 then (if (bt176.1.length : Int) = 2 then (if 0 < (bt176.1.length : Int) then (if (!(((rd_T104 bt176.1 0).f2.f0) == 94) || (!(((rd_T104 bt176.1 0).f2.f1) == 97))) = true then (metrolablaw47_awake.j0 k t173 bt176.1 true) else (if (rd_T104 bt176.1 0).f1 = true then (metrolablaw47_awake.j0 k t173 bt176.1 true) else (if 1 < (bt176.1.length : Int) then (if (!(((rd_T104 bt176.1 1).f2.f0) == 59) || (!(((rd_T104 bt176.1 1).f2.f1) == 62))) = true then (metrolablaw47_awake.j0 k t173 bt176.1 true) else (metrolablaw47_awake.j0 k t173 bt176.1 (!((rd_T104 bt176.1 1).f1)))) else (none)))) else (none)) else (metrolablaw47_awake.j0 k t173 bt176.1 true)) else (metrolablaw47_awake.j0 k t173 bt176.1 true)))) = some r := h
  clear h
  replace H := Option.bind_eq_some_iff.mp H
  obtain ⟨t173, A10, H⟩ := H
  replace H : ((gauge_Design.f k t173 2 3).bind fun bt176 => (if bt176.2 = 0 then (if (bt176.1.length : Int) = 2 then (if 0 < (bt176.1.length : Int) then (if (!(((rd_T104 bt176.1 0).f2.f0) == 94) || (!(((rd_T104 bt176.1 0).f2.f1) == 97))) = true then (metrolablaw47_awake.j0 k t173 bt176.1 true) else (if (rd_T104 bt176.1 0).f1 = true then (metrolablaw47_awake.j0 k t173 bt176.1 true) else (if 1 < (bt176.1.length : Int) then (if (!(((rd_T104 bt176.1 1).f2.f0) == 59) || (!(((rd_T104 bt176.1 1).f2.f1) == 62))) = true then (metrolablaw47_awake.j0 k t173 bt176.1 true) else (metrolablaw47_awake.j0 k t173 bt176.1 (!((rd_T104 bt176.1 1).f1)))) else (none)))) else (none)) else (metrolablaw47_awake.j0 k t173 bt176.1 true)) else (metrolablaw47_awake.j0 k t173 bt176.1 true))) = some r := H
  have A1 := Aside0.mk A10
  clear A10
  replace H := Option.bind_eq_some_iff.mp H
  obtain ⟨⟨t176, t179⟩, A20, H⟩ := H
  replace H : (if t179 = 0 then (if (t176.length : Int) = 2 then (if 0 < (t176.length : Int) then (if (!(((rd_T104 t176 0).f2.f0) == 94) || (!(((rd_T104 t176 0).f2.f1) == 97))) = true then (metrolablaw47_awake.j0 k t173 t176 true) else (if (rd_T104 t176 0).f1 = true then (metrolablaw47_awake.j0 k t173 t176 true) else (if 1 < (t176.length : Int) then (if (!(((rd_T104 t176 1).f2.f0) == 59) || (!(((rd_T104 t176 1).f2.f1) == 62))) = true then (metrolablaw47_awake.j0 k t173 t176 true) else (metrolablaw47_awake.j0 k t173 t176 (!((rd_T104 t176 1).f1)))) else (none)))) else (none)) else (metrolablaw47_awake.j0 k t173 t176 true)) else (metrolablaw47_awake.j0 k t173 t176 true)) = some r := H
  have A2 := Aside0.mk A20
  clear A20
  have HC3 := Aside0.mk H
  clear H
  go_enter Tryd.func30, Tryd.ntmps30
  go_upto_region 3 with (first | ((with_reducible refine gate_callee (f := 79) rfl ?_); refine goesL_ (some 8) rfl rfl Tryd.func79 (by kernel_rfl) rfl #[] rfl (by (try simp only [List.map_toArray, List.map_cons, List.map_nil]); first | done | rfl | (simp only [List.length_drop, List.length_take]; rfl)) ?_; (with_reducible refine (metrolablaw47_Pair.calls  t173 _ A1.out).mono ?_); rintro e w4 ⟨v174, rfl, ho0, hb⟩; refine ⟨_, rfl, ?_⟩; have n0_ := Aside0.mk (Kd.R_lower ho0 (below_size (by repeat (first | (with_reducible first | exact HB.out | apply below_alloc | apply pw_below_drewN | apply below_drew1) | exact HB.out)))); have n1_ := Aside0.mk (below_step (by repeat (first | (with_reducible first | exact HB.out | apply below_alloc | apply pw_below_drewN | apply below_drew1) | exact HB.out)) hb); clear HB; have HO175 := n0_; have HB := n1_; clear n0_ n1_; (try clear hb); (try clear hb2); (try clear hk); (try clear hi); (try clear ho0); obtain ⟨Ao5, co5, eo5⟩ := Kd.R_slice HO175.out; subst eo5) | ((with_reducible refine gate_callee (f := 31) rfl ?_); refine goesL_ (some 12) rfl rfl Tryd.func31 (by kernel_rfl) rfl #[.slice Ao5 t173.length co5, .agg #[.int .i64 2, .int .i64 3]] rfl (by (try simp only [List.map_toArray, List.map_cons, List.map_nil]); first | done | rfl | (simp only [List.length_drop, List.length_take]; rfl)) ?_; (with_reducible refine (gauge_Design.calls k _ _ t173 2 3 t176 t179 _ ?side1 ?side2 A2.out (by exact sig_below HS.out (by repeat (first | (with_reducible first | exact HB.out | apply below_alloc | apply pw_below_drewN | apply below_drew1 | fail) | exact HB.out)))).mono ?_); (case side1 => repeat (first | exact (Kd.R_reads' HO175.out).2.2 | (with_reducible refine Kd.C_alloc ?_ _) | (with_reducible refine Kd.C_drewN ?_ _) | (with_reducible refine Kd.C_drew ?_))); (case side2 => exact (Kd.R_reads' HO175.out).2.1); rintro e w6 ⟨v177, rfl, ho0, hb⟩; refine ⟨_, rfl, ?_⟩; have n0_ := Aside0.mk (Kd.R_below (by (with_reducible repeat (first | apply Kd.R_alloc | apply Kd.R_drewN | apply Kd.R_drew)); exact HO175.out) hb); have n1_ := Aside0.mk (Kd.R_lower ho0 (below_size (by repeat (first | (with_reducible first | exact HB.out | apply below_alloc | apply pw_below_drewN | apply below_drew1) | exact HB.out)))); have n2_ := Aside0.mk (below_step (by repeat (first | (with_reducible first | exact HB.out | apply below_alloc | apply pw_below_drewN | apply below_drew1) | exact HB.out)) hb); clear HO175; clear HB; have HO175 := n0_; have HO178 := n1_; have HB := n2_; clear n0_ n1_ n2_; (try clear hb); (try clear hb2); (try clear hk); (try clear hi); (try clear ho0)))
  (try simp only [Act.put, List.setIfInBounds_toArray, List.set_cons_zero, List.set_cons_succ])
  go_cut [50] (fun v50 wc => ∃ (kq : Nat) (x50_2 : Bool), v50 = .bool x50_2 ∧ Aside0 (metrolablaw47_awake.j0 kq t173 t176 x50_2 = some r) ∧ Aside0 (kq ≤ k) ∧ Aside0 (Kd.R k27 27 wc w.heap.size (fun _ => True) (.slice Ao5 t173.length co5) t173) ∧ Aside0 (Kd.R k104 104 wc w.heap.size (fun _ => True) v177 t176) ∧ Aside0 (Below w.heap.size w wc))
  case first =>
    have H := HC3.out
    clear HC3
    by_cases c7 : t179 = 0
    · rw [if_pos c7] at H
      have c7b0 : (t179 == 0) = true := beq_iff_eq.mpr c7
      have c7b1 : (t179 != 0) = false := bne_eq_false_iff_eq.mpr c7
      clear c7
      (first | rw [c7b0] | (simp only [i64_w, i32_w]; rw [c7b0]) | skip)
      by_cases c8 : (t176.length : Int) = 2
      · rw [if_pos c8] at H
        have c8b0 : ((t176.length : Int) == 2) = true := beq_iff_eq.mpr c8
        have c8b1 : ((t176.length : Int) != 2) = false := bne_eq_false_iff_eq.mpr c8
        clear c8
        by_cases c9 : 0 < (t176.length : Int)
        · rw [if_pos c9] at H
          have c9b0 : decide (0 < (t176.length : Int)) = true := decide_eq_true c9
          have c9b1 : decide (0 < t176.length) = true := decide_eq_true (by omega)
          clear c9
          by_cases c10 : (!(((rd_T104 t176 0).f2.f0) == 94) || (!(((rd_T104 t176 0).f2.f1) == 97))) = true
          · rw [if_pos c10] at H
            have c10b0 : (!(((rd_T104 t176 0).f2.f0) == 94) || (!(((rd_T104 t176 0).f2.f1) == 97))) = true := c10
            clear c10
            have H' := Aside0.mk H
            clear H
            obtain ⟨Ao11, co11, eo11⟩ := Kd.R_slice HO178.out
            subst eo11
            have p180 : 0 ≤ (0 : Int) := (by omega)
            have q180 : 0 < (t176.length : Int) := of_decide_eq_true (by first | (with_reducible assumption) | assumption)
            obtain ⟨ad180, e180, hx180_0, hx180_1, hx180_2, hx180_3, hx180_4⟩ := at_T104 (Kd.R_reads' HO178.out).2.2 0 p180 q180
            cases e180
            have qi180 : (0 < t176.length) = True := eq_true (by omega)
            (try rw [show ((0 : Int)).toNat = 0 from rfl] at hx180_0)
            (try rw [show 0 * 5 = 0 from rfl] at hx180_0)
            (try rw [Addr.add_zero'] at hx180_0)
            (try rw [show ((0 : Int)).toNat = 0 from rfl] at hx180_1)
            (try rw [show 0 * 5 = 0 from rfl] at hx180_1)
            (try rw [Addr.add_zero'] at hx180_1)
            (try rw [show ((0 : Int)).toNat = 0 from rfl] at hx180_2)
            (try rw [show 0 * 5 = 0 from rfl] at hx180_2)
            (try rw [Addr.add_zero'] at hx180_2)
            (try rw [show ((0 : Int)).toNat = 0 from rfl] at hx180_3)
            (try rw [show 0 * 5 = 0 from rfl] at hx180_3)
            (try rw [Addr.add_zero'] at hx180_3)
            (try rw [show ((0 : Int)).toNat = 0 from rfl] at hx180_4)
            (try rw [show 0 * 5 = 0 from rfl] at hx180_4)
            (try rw [Addr.add_zero'] at hx180_4)
            replace p180 := eq_true p180
            replace q180 := eq_true q180
            go_wp2
            go_meet
            case rel => exact ⟨_, (true), (by first | rfl | (simp; done) | (simp [*]; done)), H', ⟨by first | omega | exact Nat.le_refl _⟩, ⟨by (with_reducible repeat (first | apply Kd.R_alloc | apply Kd.R_drewN | apply Kd.R_drew)); exact HO175.out⟩, ⟨by (with_reducible repeat (first | apply Kd.R_alloc | apply Kd.R_drewN | apply Kd.R_drew)); exact HO178.out⟩, ⟨by repeat (first | (with_reducible first | exact HB.out | apply below_alloc | apply pw_below_drewN | apply below_drew1) | exact HB.out)⟩⟩
          · rw [if_neg c10] at H
            have c10b0 : (!(((rd_T104 t176 0).f2.f0) == 94) || (!(((rd_T104 t176 0).f2.f1) == 97))) = false := by simpa using c10
            clear c10
            obtain ⟨bq12, hbq12⟩ : ∃ b_ : Bool, b_ = ((rd_T104 t176 0).f1) := ⟨_, rfl⟩
            replace H : (if bq12 = true then (metrolablaw47_awake.j0 k t173 t176 true) else (if 1 < (t176.length : Int) then (if (!(((rd_T104 t176 1).f2.f0) == 59) || (!(((rd_T104 t176 1).f2.f1) == 62))) = true then (metrolablaw47_awake.j0 k t173 t176 true) else (metrolablaw47_awake.j0 k t173 t176 (!((rd_T104 t176 1).f1)))) else (none))) = some r := by rw [← hbq12] at H; exact H
            have Nbq12 := Aside0.mk hbq12
            clear hbq12
            by_cases c13 : bq12 = true
            · subst c13
              have H1 : (metrolablaw47_awake.j0 k t173 t176 true) = some r := by rw [if_pos rfl] at H; exact H
              clear H
              have H := H1
              clear H1
              have H' := Aside0.mk H
              clear H
              obtain ⟨Ao14, co14, eo14⟩ := Kd.R_slice HO178.out
              subst eo14
              have p180 : 0 ≤ (0 : Int) := (by omega)
              have q180 : 0 < (t176.length : Int) := of_decide_eq_true (by first | (with_reducible assumption) | assumption)
              obtain ⟨ad180, e180, hx180_0, hx180_1, hx180_2, hx180_3, hx180_4⟩ := at_T104 (Kd.R_reads' HO178.out).2.2 0 p180 q180
              (try rw [← Nbq12.out] at hx180_2)
              cases e180
              have qi180 : (0 < t176.length) = True := eq_true (by omega)
              (try rw [show ((0 : Int)).toNat = 0 from rfl] at hx180_0)
              (try rw [show 0 * 5 = 0 from rfl] at hx180_0)
              (try rw [Addr.add_zero'] at hx180_0)
              (try rw [show ((0 : Int)).toNat = 0 from rfl] at hx180_1)
              (try rw [show 0 * 5 = 0 from rfl] at hx180_1)
              (try rw [Addr.add_zero'] at hx180_1)
              (try rw [show ((0 : Int)).toNat = 0 from rfl] at hx180_2)
              (try rw [show 0 * 5 = 0 from rfl] at hx180_2)
              (try rw [Addr.add_zero'] at hx180_2)
              (try rw [show ((0 : Int)).toNat = 0 from rfl] at hx180_3)
              (try rw [show 0 * 5 = 0 from rfl] at hx180_3)
              (try rw [Addr.add_zero'] at hx180_3)
              (try rw [show ((0 : Int)).toNat = 0 from rfl] at hx180_4)
              (try rw [show 0 * 5 = 0 from rfl] at hx180_4)
              (try rw [Addr.add_zero'] at hx180_4)
              replace p180 := eq_true p180
              replace q180 := eq_true q180
              have p181 : 0 ≤ (0 : Int) := (by omega)
              have q181 : 0 < (t176.length : Int) := of_decide_eq_true (by first | (with_reducible assumption) | assumption)
              obtain ⟨ad181, e181, hx181_0, hx181_1, hx181_2, hx181_3, hx181_4⟩ := at_T104 (Kd.R_reads' HO178.out).2.2 0 p181 q181
              (try rw [← Nbq12.out] at hx181_2)
              obtain rfl : ad180 = ad181 := (by injection e181)
              have qi181 : (0 < t176.length) = True := eq_true (by omega)
              (try rw [show ((0 : Int)).toNat = 0 from rfl] at hx181_0)
              (try rw [show 0 * 5 = 0 from rfl] at hx181_0)
              (try rw [Addr.add_zero'] at hx181_0)
              (try rw [show ((0 : Int)).toNat = 0 from rfl] at hx181_1)
              (try rw [show 0 * 5 = 0 from rfl] at hx181_1)
              (try rw [Addr.add_zero'] at hx181_1)
              (try rw [show ((0 : Int)).toNat = 0 from rfl] at hx181_2)
              (try rw [show 0 * 5 = 0 from rfl] at hx181_2)
              (try rw [Addr.add_zero'] at hx181_2)
              (try rw [show ((0 : Int)).toNat = 0 from rfl] at hx181_3)
              (try rw [show 0 * 5 = 0 from rfl] at hx181_3)
              (try rw [Addr.add_zero'] at hx181_3)
              (try rw [show ((0 : Int)).toNat = 0 from rfl] at hx181_4)
              (try rw [show 0 * 5 = 0 from rfl] at hx181_4)
              (try rw [Addr.add_zero'] at hx181_4)
              replace p181 := eq_true p181
              replace q181 := eq_true q181
              go_wp2
              go_meet
              case rel => exact ⟨_, (true), (by first | rfl | (simp; done) | (simp [*]; done)), H', ⟨by first | omega | exact Nat.le_refl _⟩, ⟨by (with_reducible repeat (first | apply Kd.R_alloc | apply Kd.R_drewN | apply Kd.R_drew)); exact HO175.out⟩, ⟨by (with_reducible repeat (first | apply Kd.R_alloc | apply Kd.R_drewN | apply Kd.R_drew)); exact HO178.out⟩, ⟨by repeat (first | (with_reducible first | exact HB.out | apply below_alloc | apply pw_below_drewN | apply below_drew1) | exact HB.out)⟩⟩
            · replace c13 := Bool.eq_false_iff.mpr c13
              subst c13
              have H1 : (if 1 < (t176.length : Int) then (if (!(((rd_T104 t176 1).f2.f0) == 59) || (!(((rd_T104 t176 1).f2.f1) == 62))) = true then (metrolablaw47_awake.j0 k t173 t176 true) else (metrolablaw47_awake.j0 k t173 t176 (!((rd_T104 t176 1).f1)))) else (none)) = some r := by rw [if_neg (show ¬ (false = true) by decide)] at H; exact H
              clear H
              have H := H1
              clear H1
              by_cases c15 : 1 < (t176.length : Int)
              · rw [if_pos c15] at H
                have c15b0 : decide (1 < (t176.length : Int)) = true := decide_eq_true c15
                have c15b1 : decide (1 < t176.length) = true := decide_eq_true (by omega)
                clear c15
                by_cases c16 : (!(((rd_T104 t176 1).f2.f0) == 59) || (!(((rd_T104 t176 1).f2.f1) == 62))) = true
                · rw [if_pos c16] at H
                  have c16b0 : (!(((rd_T104 t176 1).f2.f0) == 59) || (!(((rd_T104 t176 1).f2.f1) == 62))) = true := c16
                  clear c16
                  have H' := Aside0.mk H
                  clear H
                  obtain ⟨Ao17, co17, eo17⟩ := Kd.R_slice HO178.out
                  subst eo17
                  have p180 : 0 ≤ (0 : Int) := (by omega)
                  have q180 : 0 < (t176.length : Int) := of_decide_eq_true (by first | (with_reducible assumption) | assumption)
                  obtain ⟨ad180, e180, hx180_0, hx180_1, hx180_2, hx180_3, hx180_4⟩ := at_T104 (Kd.R_reads' HO178.out).2.2 0 p180 q180
                  (try rw [← Nbq12.out] at hx180_2)
                  cases e180
                  have qi180 : (0 < t176.length) = True := eq_true (by omega)
                  (try rw [show ((0 : Int)).toNat = 0 from rfl] at hx180_0)
                  (try rw [show 0 * 5 = 0 from rfl] at hx180_0)
                  (try rw [Addr.add_zero'] at hx180_0)
                  (try rw [show ((0 : Int)).toNat = 0 from rfl] at hx180_1)
                  (try rw [show 0 * 5 = 0 from rfl] at hx180_1)
                  (try rw [Addr.add_zero'] at hx180_1)
                  (try rw [show ((0 : Int)).toNat = 0 from rfl] at hx180_2)
                  (try rw [show 0 * 5 = 0 from rfl] at hx180_2)
                  (try rw [Addr.add_zero'] at hx180_2)
                  (try rw [show ((0 : Int)).toNat = 0 from rfl] at hx180_3)
                  (try rw [show 0 * 5 = 0 from rfl] at hx180_3)
                  (try rw [Addr.add_zero'] at hx180_3)
                  (try rw [show ((0 : Int)).toNat = 0 from rfl] at hx180_4)
                  (try rw [show 0 * 5 = 0 from rfl] at hx180_4)
                  (try rw [Addr.add_zero'] at hx180_4)
                  replace p180 := eq_true p180
                  replace q180 := eq_true q180
                  have p181 : 0 ≤ (0 : Int) := (by omega)
                  have q181 : 0 < (t176.length : Int) := of_decide_eq_true (by first | (with_reducible assumption) | assumption)
                  obtain ⟨ad181, e181, hx181_0, hx181_1, hx181_2, hx181_3, hx181_4⟩ := at_T104 (Kd.R_reads' HO178.out).2.2 0 p181 q181
                  (try rw [← Nbq12.out] at hx181_2)
                  obtain rfl : ad180 = ad181 := (by injection e181)
                  have qi181 : (0 < t176.length) = True := eq_true (by omega)
                  (try rw [show ((0 : Int)).toNat = 0 from rfl] at hx181_0)
                  (try rw [show 0 * 5 = 0 from rfl] at hx181_0)
                  (try rw [Addr.add_zero'] at hx181_0)
                  (try rw [show ((0 : Int)).toNat = 0 from rfl] at hx181_1)
                  (try rw [show 0 * 5 = 0 from rfl] at hx181_1)
                  (try rw [Addr.add_zero'] at hx181_1)
                  (try rw [show ((0 : Int)).toNat = 0 from rfl] at hx181_2)
                  (try rw [show 0 * 5 = 0 from rfl] at hx181_2)
                  (try rw [Addr.add_zero'] at hx181_2)
                  (try rw [show ((0 : Int)).toNat = 0 from rfl] at hx181_3)
                  (try rw [show 0 * 5 = 0 from rfl] at hx181_3)
                  (try rw [Addr.add_zero'] at hx181_3)
                  (try rw [show ((0 : Int)).toNat = 0 from rfl] at hx181_4)
                  (try rw [show 0 * 5 = 0 from rfl] at hx181_4)
                  (try rw [Addr.add_zero'] at hx181_4)
                  replace p181 := eq_true p181
                  replace q181 := eq_true q181
                  have p182 : 0 ≤ (1 : Int) := (by omega)
                  have q182 : 1 < (t176.length : Int) := of_decide_eq_true (by first | (with_reducible assumption) | assumption)
                  obtain ⟨ad182, e182, hx182_0, hx182_1, hx182_2, hx182_3, hx182_4⟩ := at_T104 (Kd.R_reads' HO178.out).2.2 1 p182 q182
                  (try rw [← Nbq12.out] at hx182_2)
                  obtain rfl : ad180 = ad182 := (by injection e182)
                  (try simp only [show (1 : Int).toNat = 1 from rfl, Nat.reduceMul, Nat.reduceEqDiff, Go.Addr.add, ↓reduceIte] at hx182_0)
                  (try simp only [show (1 : Int).toNat = 1 from rfl, Nat.reduceMul, Nat.reduceEqDiff, Go.Addr.add, ↓reduceIte] at hx182_1)
                  (try simp only [show (1 : Int).toNat = 1 from rfl, Nat.reduceMul, Nat.reduceEqDiff, Go.Addr.add, ↓reduceIte] at hx182_2)
                  (try simp only [show (1 : Int).toNat = 1 from rfl, Nat.reduceMul, Nat.reduceEqDiff, Go.Addr.add, ↓reduceIte] at hx182_3)
                  (try simp only [show (1 : Int).toNat = 1 from rfl, Nat.reduceMul, Nat.reduceEqDiff, Go.Addr.add, ↓reduceIte] at hx182_4)
                  have qi182 : (1 < t176.length) = True := eq_true (by omega)
                  (try rw [show ((1 : Int)).toNat = 1 from rfl] at hx182_0)
                  (try rw [show 1 * 5 = 5 from rfl] at hx182_0)
                  (try rw [show ((1 : Int)).toNat = 1 from rfl] at hx182_1)
                  (try rw [show 1 * 5 = 5 from rfl] at hx182_1)
                  (try rw [show ((1 : Int)).toNat = 1 from rfl] at hx182_2)
                  (try rw [show 1 * 5 = 5 from rfl] at hx182_2)
                  (try rw [show ((1 : Int)).toNat = 1 from rfl] at hx182_3)
                  (try rw [show 1 * 5 = 5 from rfl] at hx182_3)
                  (try rw [show ((1 : Int)).toNat = 1 from rfl] at hx182_4)
                  (try rw [show 1 * 5 = 5 from rfl] at hx182_4)
                  replace p182 := eq_true p182
                  replace q182 := eq_true q182
                  go_wp2
                  go_meet
                  case rel => exact ⟨_, (true), (by first | rfl | (simp; done) | (simp [*]; done)), H', ⟨by first | omega | exact Nat.le_refl _⟩, ⟨by (with_reducible repeat (first | apply Kd.R_alloc | apply Kd.R_drewN | apply Kd.R_drew)); exact HO175.out⟩, ⟨by (with_reducible repeat (first | apply Kd.R_alloc | apply Kd.R_drewN | apply Kd.R_drew)); exact HO178.out⟩, ⟨by repeat (first | (with_reducible first | exact HB.out | apply below_alloc | apply pw_below_drewN | apply below_drew1) | exact HB.out)⟩⟩
                · rw [if_neg c16] at H
                  have c16b0 : (!(((rd_T104 t176 1).f2.f0) == 59) || (!(((rd_T104 t176 1).f2.f1) == 62))) = false := by simpa using c16
                  clear c16
                  have H' := Aside0.mk H
                  clear H
                  obtain ⟨Ao18, co18, eo18⟩ := Kd.R_slice HO178.out
                  subst eo18
                  have p180 : 0 ≤ (0 : Int) := (by omega)
                  have q180 : 0 < (t176.length : Int) := of_decide_eq_true (by first | (with_reducible assumption) | assumption)
                  obtain ⟨ad180, e180, hx180_0, hx180_1, hx180_2, hx180_3, hx180_4⟩ := at_T104 (Kd.R_reads' HO178.out).2.2 0 p180 q180
                  (try rw [← Nbq12.out] at hx180_2)
                  cases e180
                  have qi180 : (0 < t176.length) = True := eq_true (by omega)
                  (try rw [show ((0 : Int)).toNat = 0 from rfl] at hx180_0)
                  (try rw [show 0 * 5 = 0 from rfl] at hx180_0)
                  (try rw [Addr.add_zero'] at hx180_0)
                  (try rw [show ((0 : Int)).toNat = 0 from rfl] at hx180_1)
                  (try rw [show 0 * 5 = 0 from rfl] at hx180_1)
                  (try rw [Addr.add_zero'] at hx180_1)
                  (try rw [show ((0 : Int)).toNat = 0 from rfl] at hx180_2)
                  (try rw [show 0 * 5 = 0 from rfl] at hx180_2)
                  (try rw [Addr.add_zero'] at hx180_2)
                  (try rw [show ((0 : Int)).toNat = 0 from rfl] at hx180_3)
                  (try rw [show 0 * 5 = 0 from rfl] at hx180_3)
                  (try rw [Addr.add_zero'] at hx180_3)
                  (try rw [show ((0 : Int)).toNat = 0 from rfl] at hx180_4)
                  (try rw [show 0 * 5 = 0 from rfl] at hx180_4)
                  (try rw [Addr.add_zero'] at hx180_4)
                  replace p180 := eq_true p180
                  replace q180 := eq_true q180
                  have p181 : 0 ≤ (0 : Int) := (by omega)
                  have q181 : 0 < (t176.length : Int) := of_decide_eq_true (by first | (with_reducible assumption) | assumption)
                  obtain ⟨ad181, e181, hx181_0, hx181_1, hx181_2, hx181_3, hx181_4⟩ := at_T104 (Kd.R_reads' HO178.out).2.2 0 p181 q181
                  (try rw [← Nbq12.out] at hx181_2)
                  obtain rfl : ad180 = ad181 := (by injection e181)
                  have qi181 : (0 < t176.length) = True := eq_true (by omega)
                  (try rw [show ((0 : Int)).toNat = 0 from rfl] at hx181_0)
                  (try rw [show 0 * 5 = 0 from rfl] at hx181_0)
                  (try rw [Addr.add_zero'] at hx181_0)
                  (try rw [show ((0 : Int)).toNat = 0 from rfl] at hx181_1)
                  (try rw [show 0 * 5 = 0 from rfl] at hx181_1)
                  (try rw [Addr.add_zero'] at hx181_1)
                  (try rw [show ((0 : Int)).toNat = 0 from rfl] at hx181_2)
                  (try rw [show 0 * 5 = 0 from rfl] at hx181_2)
                  (try rw [Addr.add_zero'] at hx181_2)
                  (try rw [show ((0 : Int)).toNat = 0 from rfl] at hx181_3)
                  (try rw [show 0 * 5 = 0 from rfl] at hx181_3)
                  (try rw [Addr.add_zero'] at hx181_3)
                  (try rw [show ((0 : Int)).toNat = 0 from rfl] at hx181_4)
                  (try rw [show 0 * 5 = 0 from rfl] at hx181_4)
                  (try rw [Addr.add_zero'] at hx181_4)
                  replace p181 := eq_true p181
                  replace q181 := eq_true q181
                  have p182 : 0 ≤ (1 : Int) := (by omega)
                  have q182 : 1 < (t176.length : Int) := of_decide_eq_true (by first | (with_reducible assumption) | assumption)
                  obtain ⟨ad182, e182, hx182_0, hx182_1, hx182_2, hx182_3, hx182_4⟩ := at_T104 (Kd.R_reads' HO178.out).2.2 1 p182 q182
                  (try rw [← Nbq12.out] at hx182_2)
                  obtain rfl : ad180 = ad182 := (by injection e182)
                  (try simp only [show (1 : Int).toNat = 1 from rfl, Nat.reduceMul, Nat.reduceEqDiff, Go.Addr.add, ↓reduceIte] at hx182_0)
                  (try simp only [show (1 : Int).toNat = 1 from rfl, Nat.reduceMul, Nat.reduceEqDiff, Go.Addr.add, ↓reduceIte] at hx182_1)
                  (try simp only [show (1 : Int).toNat = 1 from rfl, Nat.reduceMul, Nat.reduceEqDiff, Go.Addr.add, ↓reduceIte] at hx182_2)
                  (try simp only [show (1 : Int).toNat = 1 from rfl, Nat.reduceMul, Nat.reduceEqDiff, Go.Addr.add, ↓reduceIte] at hx182_3)
                  (try simp only [show (1 : Int).toNat = 1 from rfl, Nat.reduceMul, Nat.reduceEqDiff, Go.Addr.add, ↓reduceIte] at hx182_4)
                  have qi182 : (1 < t176.length) = True := eq_true (by omega)
                  (try rw [show ((1 : Int)).toNat = 1 from rfl] at hx182_0)
                  (try rw [show 1 * 5 = 5 from rfl] at hx182_0)
                  (try rw [show ((1 : Int)).toNat = 1 from rfl] at hx182_1)
                  (try rw [show 1 * 5 = 5 from rfl] at hx182_1)
                  (try rw [show ((1 : Int)).toNat = 1 from rfl] at hx182_2)
                  (try rw [show 1 * 5 = 5 from rfl] at hx182_2)
                  (try rw [show ((1 : Int)).toNat = 1 from rfl] at hx182_3)
                  (try rw [show 1 * 5 = 5 from rfl] at hx182_3)
                  (try rw [show ((1 : Int)).toNat = 1 from rfl] at hx182_4)
                  (try rw [show 1 * 5 = 5 from rfl] at hx182_4)
                  replace p182 := eq_true p182
                  replace q182 := eq_true q182
                  have p183 : 0 ≤ (1 : Int) := (by omega)
                  have q183 : 1 < (t176.length : Int) := of_decide_eq_true (by first | (with_reducible assumption) | assumption)
                  obtain ⟨ad183, e183, hx183_0, hx183_1, hx183_2, hx183_3, hx183_4⟩ := at_T104 (Kd.R_reads' HO178.out).2.2 1 p183 q183
                  (try rw [← Nbq12.out] at hx183_2)
                  obtain rfl : ad180 = ad183 := (by injection e183)
                  (try simp only [show (1 : Int).toNat = 1 from rfl, Nat.reduceMul, Nat.reduceEqDiff, Go.Addr.add, ↓reduceIte] at hx183_0)
                  (try simp only [show (1 : Int).toNat = 1 from rfl, Nat.reduceMul, Nat.reduceEqDiff, Go.Addr.add, ↓reduceIte] at hx183_1)
                  (try simp only [show (1 : Int).toNat = 1 from rfl, Nat.reduceMul, Nat.reduceEqDiff, Go.Addr.add, ↓reduceIte] at hx183_2)
                  (try simp only [show (1 : Int).toNat = 1 from rfl, Nat.reduceMul, Nat.reduceEqDiff, Go.Addr.add, ↓reduceIte] at hx183_3)
                  (try simp only [show (1 : Int).toNat = 1 from rfl, Nat.reduceMul, Nat.reduceEqDiff, Go.Addr.add, ↓reduceIte] at hx183_4)
                  have qi183 : (1 < t176.length) = True := eq_true (by omega)
                  (try rw [show ((1 : Int)).toNat = 1 from rfl] at hx183_0)
                  (try rw [show 1 * 5 = 5 from rfl] at hx183_0)
                  (try rw [show ((1 : Int)).toNat = 1 from rfl] at hx183_1)
                  (try rw [show 1 * 5 = 5 from rfl] at hx183_1)
                  (try rw [show ((1 : Int)).toNat = 1 from rfl] at hx183_2)
                  (try rw [show 1 * 5 = 5 from rfl] at hx183_2)
                  (try rw [show ((1 : Int)).toNat = 1 from rfl] at hx183_3)
                  (try rw [show 1 * 5 = 5 from rfl] at hx183_3)
                  (try rw [show ((1 : Int)).toNat = 1 from rfl] at hx183_4)
                  (try rw [show 1 * 5 = 5 from rfl] at hx183_4)
                  replace p183 := eq_true p183
                  replace q183 := eq_true q183
                  go_wp2
                  go_meet
                  case rel => exact ⟨_, (!((rd_T104 t176 1).f1)), (by first | rfl | (simp; done) | (simp [*]; done)), H', ⟨by first | omega | exact Nat.le_refl _⟩, ⟨by (with_reducible repeat (first | apply Kd.R_alloc | apply Kd.R_drewN | apply Kd.R_drew)); exact HO175.out⟩, ⟨by (with_reducible repeat (first | apply Kd.R_alloc | apply Kd.R_drewN | apply Kd.R_drew)); exact HO178.out⟩, ⟨by repeat (first | (with_reducible first | exact HB.out | apply below_alloc | apply pw_below_drewN | apply below_drew1) | exact HB.out)⟩⟩
              · rw [if_neg c15] at H
                exact absurd H (by simp)
        · rw [if_neg c9] at H
          exact absurd H (by simp)
      · rw [if_neg c8] at H
        have c8b0 : ((t176.length : Int) == 2) = false := beq_eq_false_iff_ne.mpr c8
        have c8b1 : ((t176.length : Int) != 2) = true := bne_iff_ne.mpr c8
        have H' := Aside0.mk H
        clear H
        obtain ⟨Ao19, co19, eo19⟩ := Kd.R_slice HO178.out
        subst eo19
        go_wp2
        go_meet
        case rel => exact ⟨_, (true), (by first | rfl | (simp; done) | (simp [*]; done)), H', ⟨by first | omega | exact Nat.le_refl _⟩, ⟨by (with_reducible repeat (first | apply Kd.R_alloc | apply Kd.R_drewN | apply Kd.R_drew)); exact HO175.out⟩, ⟨by (with_reducible repeat (first | apply Kd.R_alloc | apply Kd.R_drewN | apply Kd.R_drew)); exact HO178.out⟩, ⟨by repeat (first | (with_reducible first | exact HB.out | apply below_alloc | apply pw_below_drewN | apply below_drew1) | exact HB.out)⟩⟩
    · rw [if_neg c7] at H
      have c7b0 : (t179 == 0) = false := beq_eq_false_iff_ne.mpr c7
      have c7b1 : (t179 != 0) = true := bne_iff_ne.mpr c7
      (first | rw [c7b0] | (simp only [i64_w, i32_w]; rw [c7b0]) | skip)
      have H' := Aside0.mk H
      clear H
      go_wp2
      go_meet
      case rel => exact ⟨_, (true), (by first | rfl | (simp; done) | (simp [*]; done)), H', ⟨by first | omega | exact Nat.le_refl _⟩, ⟨by (with_reducible repeat (first | apply Kd.R_alloc | apply Kd.R_drewN | apply Kd.R_drew)); exact HO175.out⟩, ⟨by (with_reducible repeat (first | apply Kd.R_alloc | apply Kd.R_drewN | apply Kd.R_drew)); exact HO178.out⟩, ⟨by repeat (first | (with_reducible first | exact HB.out | apply below_alloc | apply pw_below_drewN | apply below_drew1) | exact HB.out)⟩⟩
  case rest =>
    clear HC3
    try clear c1
    try clear p1
    try clear q1
    try clear hx1
    try clear qi1
    try clear p2
    try clear c3
    try clear c7
    try clear c7b0
    try clear c7b1
    try clear c8
    try clear c8b0
    try clear c8b1
    try clear c9
    try clear c9b0
    try clear c9b1
    try clear c10
    try clear c10b0
    try clear q12
    try clear c13
    try clear c15
    try clear c15b0
    try clear c15b1
    try clear c16
    try clear c16b0
    try clear p18
    try clear q18
    try clear hx18
    try clear qi18
    try clear hx180_0
    try clear hx180_1
    try clear hx180_2
    try clear hx180_3
    try clear hx180_4
    try clear hx181_0
    try clear hx181_1
    try clear hx181_2
    try clear hx181_3
    try clear hx181_4
    try clear hx182_0
    try clear hx182_1
    try clear hx182_2
    try clear hx182_3
    try clear hx182_4
    try clear hx183_0
    try clear hx183_1
    try clear hx183_2
    try clear hx183_3
    try clear hx183_4
    try clear p180
    try clear p181
    try clear p182
    try clear p183
    try clear q180
    try clear q181
    try clear q182
    try clear q183
    obtain ⟨kq, x50_2, rfl, HA, HJ2, HO_1, HO_2, HB⟩ := hcut
    cases kq with
    | zero => exact absurd HA.out (by simp [metrolablaw47_awake.j0])
    | succ kj2 =>
      have H := HA.out
      clear HA
      simp only [metrolablaw47_awake.j0] at H
      by_cases c20 : x50_2 = true
      · subst c20
        have H1 : (some false) = some r := by rw [if_pos rfl] at H; exact H
        clear H
        have H := H1
        clear H1
        obtain rfl := Option.some.inj H
        go_wp2
        go_ret
        exact ⟨by first | rfl | (simp [errW_none, errW_some] <;> rfl) | (simp [*, errW_none, errW_some] <;> rfl), by repeat (first | (with_reducible first | exact HB.out | apply below_alloc | apply pw_below_drewN | apply below_drew1) | exact HB.out)⟩
      · replace c20 := Bool.eq_false_iff.mpr c20
        subst c20
        have H1 : ((gauge_Loss.f kj2 t173 t176).bind fun bt184 => ((gauge_Made.f kj2 t176 true).bind fun bt186 => (if bt184.2 = 0 then (if bt186.2 = 0 then (if bt184.1 = 5 then ((gauge_Safe.f kj2 t173 t176).bind fun t190 => (if t190 = 0 then (metrolablaw47_awake.j1 kj2 t173 bt186.1 ((bt186.1.length : Int) != 2)) else (metrolablaw47_awake.j1 kj2 t173 bt186.1 true))) else (metrolablaw47_awake.j1 kj2 t173 bt186.1 true)) else (metrolablaw47_awake.j1 kj2 t173 bt186.1 true)) else (metrolablaw47_awake.j1 kj2 t173 bt186.1 true)))) = some r := by rw [if_neg (show ¬ (false = true) by decide)] at H; exact H
        clear H
        have H := H1
        clear H1
        replace H := Option.bind_eq_some_iff.mp H
        obtain ⟨⟨t184, t185⟩, A210, H⟩ := H
        replace H : ((gauge_Made.f kj2 t176 true).bind fun bt186 => (if t185 = 0 then (if bt186.2 = 0 then (if t184 = 5 then ((gauge_Safe.f kj2 t173 t176).bind fun t190 => (if t190 = 0 then (metrolablaw47_awake.j1 kj2 t173 bt186.1 ((bt186.1.length : Int) != 2)) else (metrolablaw47_awake.j1 kj2 t173 bt186.1 true))) else (metrolablaw47_awake.j1 kj2 t173 bt186.1 true)) else (metrolablaw47_awake.j1 kj2 t173 bt186.1 true)) else (metrolablaw47_awake.j1 kj2 t173 bt186.1 true))) = some r := H
        have A21 := Aside0.mk A210
        clear A210
        replace H := Option.bind_eq_some_iff.mp H
        obtain ⟨⟨t186, t187⟩, A220, H⟩ := H
        replace H : (if t185 = 0 then (if t187 = 0 then (if t184 = 5 then ((gauge_Safe.f kj2 t173 t176).bind fun t190 => (if t190 = 0 then (metrolablaw47_awake.j1 kj2 t173 t186 ((t186.length : Int) != 2)) else (metrolablaw47_awake.j1 kj2 t173 t186 true))) else (metrolablaw47_awake.j1 kj2 t173 t186 true)) else (metrolablaw47_awake.j1 kj2 t173 t186 true)) else (metrolablaw47_awake.j1 kj2 t173 t186 true)) = some r := H
        have A22 := Aside0.mk A220
        clear A220
        have HC23 := Aside0.mk H
        clear H
        obtain ⟨Ao24, co24, eo24⟩ := Kd.R_slice HO_2.out
        subst eo24
        go_upto_region 7 with (first | ((with_reducible refine gate_callee (f := 32) rfl ?_); refine goesL_ (some 54) rfl rfl Tryd.func32 (by kernel_rfl) rfl #[.slice Ao5 t173.length co5, .slice Ao24 t176.length co24] rfl (by (try simp only [List.map_toArray, List.map_cons, List.map_nil]); first | done | rfl | (simp only [List.length_drop, List.length_take]; rfl)) ?_; (with_reducible refine (gauge_Loss.calls kj2 _ _ t173 _ _ t176 t184 t185 _ ?side1 ?side2 ?side3 ?side4 A21.out (by exact sig_below HS.out (by repeat (first | (with_reducible first | exact HB.out | apply below_alloc | apply pw_below_drewN | apply below_drew1 | fail) | exact HB.out)))).mono ?_); (case side1 => repeat (first | exact (Kd.R_reads' HO_1.out).2.2 | (with_reducible refine Kd.C_alloc ?_ _) | (with_reducible refine Kd.C_drewN ?_ _) | (with_reducible refine Kd.C_drew ?_))); (case side2 => exact (Kd.R_reads' HO_1.out).2.1); (case side3 => repeat (first | exact (Kd.R_reads' HO_2.out).2.2 | (with_reducible refine Kd.C_alloc ?_ _) | (with_reducible refine Kd.C_drewN ?_ _) | (with_reducible refine Kd.C_drew ?_))); (case side4 => exact (Kd.R_reads' HO_2.out).2.1); rintro e w25 ⟨rfl, hb⟩; refine ⟨_, rfl, ?_⟩; have n0_ := Aside0.mk (Kd.R_below (by (with_reducible repeat (first | apply Kd.R_alloc | apply Kd.R_drewN | apply Kd.R_drew)); exact HO_1.out) hb); have n1_ := Aside0.mk (Kd.R_below (by (with_reducible repeat (first | apply Kd.R_alloc | apply Kd.R_drewN | apply Kd.R_drew)); exact HO_2.out) hb); have n2_ := Aside0.mk (below_step (by repeat (first | (with_reducible first | exact HB.out | apply below_alloc | apply pw_below_drewN | apply below_drew1) | exact HB.out)) hb); clear HO_1; clear HO_2; clear HB; have HO_1 := n0_; have HO_2 := n1_; have HB := n2_; clear n0_ n1_ n2_; (try clear hb); (try clear hb2); (try clear hk); (try clear hi)) | ((with_reducible refine gate_callee (f := 34) rfl ?_); refine goesL_ (some 59) rfl rfl Tryd.func34 (by kernel_rfl) rfl #[.slice Ao24 t176.length co24, .bool true] rfl (by (try simp only [List.map_toArray, List.map_cons, List.map_nil]); first | done | rfl | (simp only [List.length_drop, List.length_take]; rfl)) ?_; (with_reducible refine (gauge_Made.calls kj2 _ _ t176 true t186 t187 _ ?side1 ?side2 A22.out (by exact sig_below HS.out (by repeat (first | (with_reducible first | exact HB.out | apply below_alloc | apply pw_below_drewN | apply below_drew1 | fail) | exact HB.out)))).mono ?_); (case side1 => repeat (first | exact (Kd.R_reads' HO_2.out).2.2 | (with_reducible refine Kd.C_alloc ?_ _) | (with_reducible refine Kd.C_drewN ?_ _) | (with_reducible refine Kd.C_drew ?_))); (case side2 => exact (Kd.R_reads' HO_2.out).2.1); rintro e w26 ⟨v188, rfl, ho0, hb⟩; refine ⟨_, rfl, ?_⟩; have n0_ := Aside0.mk (Kd.R_below (by (with_reducible repeat (first | apply Kd.R_alloc | apply Kd.R_drewN | apply Kd.R_drew)); exact HO_1.out) hb); have n1_ := Aside0.mk (Kd.R_below (by (with_reducible repeat (first | apply Kd.R_alloc | apply Kd.R_drewN | apply Kd.R_drew)); exact HO_2.out) hb); have n2_ := Aside0.mk (Kd.R_lower ho0 (below_size (by repeat (first | (with_reducible first | exact HB.out | apply below_alloc | apply pw_below_drewN | apply below_drew1) | exact HB.out)))); have n3_ := Aside0.mk (below_step (by repeat (first | (with_reducible first | exact HB.out | apply below_alloc | apply pw_below_drewN | apply below_drew1) | exact HB.out)) hb); clear HO_1; clear HO_2; clear HB; have HO_1 := n0_; have HO_2 := n1_; have HO189 := n2_; have HB := n3_; clear n0_ n1_ n2_ n3_; (try clear hb); (try clear hb2); (try clear hk); (try clear hi); (try clear ho0)))
        (try simp only [Act.put, List.setIfInBounds_toArray, List.set_cons_zero, List.set_cons_succ])
        go_cut [82] (fun v82 wc => ∃ (kq : Nat) (x82_22 : Bool), v82 = .bool x82_22 ∧ Aside0 (metrolablaw47_awake.j1 kq t173 t186 x82_22 = some r) ∧ Aside0 (kq ≤ kj2) ∧ Aside0 (Kd.R k27 27 wc w.heap.size (fun _ => True) (.slice Ao5 t173.length co5) t173) ∧ Aside0 (Kd.R k56 56 wc w.heap.size (fun _ => True) v188 t186) ∧ Aside0 (Below w.heap.size w wc))
        case first =>
          have H := HC23.out
          clear HC23
          by_cases c27 : t185 = 0
          · rw [if_pos c27] at H
            have c27b0 : (t185 == 0) = true := beq_iff_eq.mpr c27
            have c27b1 : (t185 != 0) = false := bne_eq_false_iff_eq.mpr c27
            clear c27
            (first | rw [c27b0] | (simp only [i64_w, i32_w]; rw [c27b0]) | skip)
            by_cases c28 : t187 = 0
            · rw [if_pos c28] at H
              have c28b0 : (t187 == 0) = true := beq_iff_eq.mpr c28
              have c28b1 : (t187 != 0) = false := bne_eq_false_iff_eq.mpr c28
              clear c28
              by_cases c29 : t184 = 5
              · rw [if_pos c29] at H
                have c29b0 : (t184 == 5) = true := beq_iff_eq.mpr c29
                have c29b1 : (t184 != 5) = false := bne_eq_false_iff_eq.mpr c29
                clear c29
                replace H := Option.bind_eq_some_iff.mp H
                obtain ⟨t190, A300, H⟩ := H
                replace H : (if t190 = 0 then (metrolablaw47_awake.j1 kj2 t173 t186 ((t186.length : Int) != 2)) else (metrolablaw47_awake.j1 kj2 t173 t186 true)) = some r := H
                have A30 := Aside0.mk A300
                clear A300
                by_cases c31 : t190 = 0
                · rw [if_pos c31] at H
                  have c31b0 : (t190 == 0) = true := beq_iff_eq.mpr c31
                  have c31b1 : (t190 != 0) = false := bne_eq_false_iff_eq.mpr c31
                  clear c31
                  have H' := Aside0.mk H
                  clear H
                  go_wp2_with (first | (go_at_call 33; (with_reducible refine (gauge_Safe.calls kj2 _ _ t173 _ _ t176 t190 _ ?side1 ?side2 ?side3 ?side4 A30.out (by exact sig_below HS.out (by repeat (first | (with_reducible first | exact HB.out | apply below_alloc | apply pw_below_drewN | apply below_drew1 | fail) | exact HB.out)))).mono ?_); (case side1 => repeat (first | exact (Kd.R_reads' HO_1.out).2.2 | (with_reducible refine Kd.C_alloc ?_ _) | (with_reducible refine Kd.C_drewN ?_ _) | (with_reducible refine Kd.C_drew ?_))); (case side2 => exact (Kd.R_reads' HO_1.out).2.1); (case side3 => repeat (first | exact (Kd.R_reads' HO_2.out).2.2 | (with_reducible refine Kd.C_alloc ?_ _) | (with_reducible refine Kd.C_drewN ?_ _) | (with_reducible refine Kd.C_drew ?_))); (case side4 => exact (Kd.R_reads' HO_2.out).2.1); rintro e w32 ⟨rfl, hb⟩; have n0_ := Aside0.mk (Kd.R_below (by (with_reducible repeat (first | apply Kd.R_alloc | apply Kd.R_drewN | apply Kd.R_drew)); exact HO_1.out) hb); have n1_ := Aside0.mk (Kd.R_below (by (with_reducible repeat (first | apply Kd.R_alloc | apply Kd.R_drewN | apply Kd.R_drew)); exact HO_2.out) hb); have n2_ := Aside0.mk (Kd.R_below (by (with_reducible repeat (first | apply Kd.R_alloc | apply Kd.R_drewN | apply Kd.R_drew)); exact HO189.out) hb); have n3_ := Aside0.mk (below_step (by repeat (first | (with_reducible first | exact HB.out | apply below_alloc | apply pw_below_drewN | apply below_drew1) | exact HB.out)) hb); clear HO_1; clear HO_2; clear HO189; clear HB; have HO_1 := n0_; have HO_2 := n1_; have HO189 := n2_; have HB := n3_; clear n0_ n1_ n2_ n3_; (try clear hb); (try clear hb2); (try clear hk); (try clear hi); obtain ⟨Ao33, co33, eo33⟩ := Kd.R_slice HO189.out; subst eo33))
                  go_meet
                  case rel => exact ⟨_, (((t186.length : Int) != 2)), (by first | rfl | (simp; done) | (simp [*]; done)), H', ⟨by have := HJ2.out; first | omega | exact Nat.le_refl _⟩, ⟨by (with_reducible repeat (first | apply Kd.R_alloc | apply Kd.R_drewN | apply Kd.R_drew)); exact HO_1.out⟩, ⟨by (with_reducible repeat (first | apply Kd.R_alloc | apply Kd.R_drewN | apply Kd.R_drew)); exact HO189.out⟩, ⟨by repeat (first | (with_reducible first | exact HB.out | apply below_alloc | apply pw_below_drewN | apply below_drew1) | exact HB.out)⟩⟩
                · rw [if_neg c31] at H
                  have c31b0 : (t190 == 0) = false := beq_eq_false_iff_ne.mpr c31
                  have c31b1 : (t190 != 0) = true := bne_iff_ne.mpr c31
                  have H' := Aside0.mk H
                  clear H
                  go_wp2_with (first | (go_at_call 33; (with_reducible refine (gauge_Safe.calls kj2 _ _ t173 _ _ t176 t190 _ ?side1 ?side2 ?side3 ?side4 A30.out (by exact sig_below HS.out (by repeat (first | (with_reducible first | exact HB.out | apply below_alloc | apply pw_below_drewN | apply below_drew1 | fail) | exact HB.out)))).mono ?_); (case side1 => repeat (first | exact (Kd.R_reads' HO_1.out).2.2 | (with_reducible refine Kd.C_alloc ?_ _) | (with_reducible refine Kd.C_drewN ?_ _) | (with_reducible refine Kd.C_drew ?_))); (case side2 => exact (Kd.R_reads' HO_1.out).2.1); (case side3 => repeat (first | exact (Kd.R_reads' HO_2.out).2.2 | (with_reducible refine Kd.C_alloc ?_ _) | (with_reducible refine Kd.C_drewN ?_ _) | (with_reducible refine Kd.C_drew ?_))); (case side4 => exact (Kd.R_reads' HO_2.out).2.1); rintro e w34 ⟨rfl, hb⟩; have n0_ := Aside0.mk (Kd.R_below (by (with_reducible repeat (first | apply Kd.R_alloc | apply Kd.R_drewN | apply Kd.R_drew)); exact HO_1.out) hb); have n1_ := Aside0.mk (Kd.R_below (by (with_reducible repeat (first | apply Kd.R_alloc | apply Kd.R_drewN | apply Kd.R_drew)); exact HO_2.out) hb); have n2_ := Aside0.mk (Kd.R_below (by (with_reducible repeat (first | apply Kd.R_alloc | apply Kd.R_drewN | apply Kd.R_drew)); exact HO189.out) hb); have n3_ := Aside0.mk (below_step (by repeat (first | (with_reducible first | exact HB.out | apply below_alloc | apply pw_below_drewN | apply below_drew1) | exact HB.out)) hb); clear HO_1; clear HO_2; clear HO189; clear HB; have HO_1 := n0_; have HO_2 := n1_; have HO189 := n2_; have HB := n3_; clear n0_ n1_ n2_ n3_; (try clear hb); (try clear hb2); (try clear hk); (try clear hi)))
                  go_meet
                  case rel => exact ⟨_, (true), (by first | rfl | (simp; done) | (simp [*]; done)), H', ⟨by have := HJ2.out; first | omega | exact Nat.le_refl _⟩, ⟨by (with_reducible repeat (first | apply Kd.R_alloc | apply Kd.R_drewN | apply Kd.R_drew)); exact HO_1.out⟩, ⟨by (with_reducible repeat (first | apply Kd.R_alloc | apply Kd.R_drewN | apply Kd.R_drew)); exact HO189.out⟩, ⟨by repeat (first | (with_reducible first | exact HB.out | apply below_alloc | apply pw_below_drewN | apply below_drew1) | exact HB.out)⟩⟩
              · rw [if_neg c29] at H
                have c29b0 : (t184 == 5) = false := beq_eq_false_iff_ne.mpr c29
                have c29b1 : (t184 != 5) = true := bne_iff_ne.mpr c29
                have H' := Aside0.mk H
                clear H
                go_wp2
                go_meet
                case rel => exact ⟨_, (true), (by first | rfl | (simp; done) | (simp [*]; done)), H', ⟨by have := HJ2.out; first | omega | exact Nat.le_refl _⟩, ⟨by (with_reducible repeat (first | apply Kd.R_alloc | apply Kd.R_drewN | apply Kd.R_drew)); exact HO_1.out⟩, ⟨by (with_reducible repeat (first | apply Kd.R_alloc | apply Kd.R_drewN | apply Kd.R_drew)); exact HO189.out⟩, ⟨by repeat (first | (with_reducible first | exact HB.out | apply below_alloc | apply pw_below_drewN | apply below_drew1) | exact HB.out)⟩⟩
            · rw [if_neg c28] at H
              have c28b0 : (t187 == 0) = false := beq_eq_false_iff_ne.mpr c28
              have c28b1 : (t187 != 0) = true := bne_iff_ne.mpr c28
              have H' := Aside0.mk H
              clear H
              go_wp2
              go_meet
              case rel => exact ⟨_, (true), (by first | rfl | (simp; done) | (simp [*]; done)), H', ⟨by have := HJ2.out; first | omega | exact Nat.le_refl _⟩, ⟨by (with_reducible repeat (first | apply Kd.R_alloc | apply Kd.R_drewN | apply Kd.R_drew)); exact HO_1.out⟩, ⟨by (with_reducible repeat (first | apply Kd.R_alloc | apply Kd.R_drewN | apply Kd.R_drew)); exact HO189.out⟩, ⟨by repeat (first | (with_reducible first | exact HB.out | apply below_alloc | apply pw_below_drewN | apply below_drew1) | exact HB.out)⟩⟩
          · rw [if_neg c27] at H
            have c27b0 : (t185 == 0) = false := beq_eq_false_iff_ne.mpr c27
            have c27b1 : (t185 != 0) = true := bne_iff_ne.mpr c27
            (first | rw [c27b0] | (simp only [i64_w, i32_w]; rw [c27b0]) | skip)
            have H' := Aside0.mk H
            clear H
            go_wp2
            go_meet
            case rel => exact ⟨_, (true), (by first | rfl | (simp; done) | (simp [*]; done)), H', ⟨by have := HJ2.out; first | omega | exact Nat.le_refl _⟩, ⟨by (with_reducible repeat (first | apply Kd.R_alloc | apply Kd.R_drewN | apply Kd.R_drew)); exact HO_1.out⟩, ⟨by (with_reducible repeat (first | apply Kd.R_alloc | apply Kd.R_drewN | apply Kd.R_drew)); exact HO189.out⟩, ⟨by repeat (first | (with_reducible first | exact HB.out | apply below_alloc | apply pw_below_drewN | apply below_drew1) | exact HB.out)⟩⟩
        case rest =>
          clear HC23
          try clear c1
          try clear p1
          try clear q1
          try clear hx1
          try clear qi1
          try clear c2
          try clear p2
          try clear c3
          try clear c7
          try clear c7b0
          try clear c7b1
          try clear c8
          try clear c8b0
          try clear c8b1
          try clear c9
          try clear c9b0
          try clear c9b1
          try clear c10
          try clear c10b0
          try clear q12
          try clear c13
          try clear c15
          try clear c15b0
          try clear c15b1
          try clear c16
          try clear c16b0
          try clear p18
          try clear q18
          try clear hx18
          try clear qi18
          try clear c20
          try clear c27
          try clear c27b0
          try clear c27b1
          try clear c28
          try clear c28b0
          try clear c28b1
          try clear c29
          try clear c29b0
          try clear c29b1
          try clear c30
          try clear c31
          try clear c31b0
          try clear c31b1
          try clear c32
          try clear c34
          try clear hx180_0
          try clear hx180_1
          try clear hx180_2
          try clear hx180_3
          try clear hx180_4
          try clear hx181_0
          try clear hx181_1
          try clear hx181_2
          try clear hx181_3
          try clear hx181_4
          try clear hx182_0
          try clear hx182_1
          try clear hx182_2
          try clear hx182_3
          try clear hx182_4
          try clear hx183_0
          try clear hx183_1
          try clear hx183_2
          try clear hx183_3
          try clear hx183_4
          try clear p1
          try clear p18
          try clear p180
          try clear p181
          try clear p182
          try clear p183
          try clear p2
          try clear q1
          try clear q12
          try clear q18
          try clear q180
          try clear q181
          try clear q182
          try clear q183
          obtain ⟨kq, x82_22, rfl, HA, HJ22, HO_1, HO_5, HB⟩ := hcut
          cases kq with
          | zero => exact absurd HA.out (by simp [metrolablaw47_awake.j1])
          | succ kj22 =>
            have H := HA.out
            clear HA
            simp only [metrolablaw47_awake.j1] at H
            by_cases c35 : x82_22 = true
            · subst c35
              have H1 : (some false) = some r := by rw [if_pos rfl] at H; exact H
              clear H
              have H := H1
              clear H1
              obtain rfl := Option.some.inj H
              go_wp2
              go_ret
              exact ⟨by first | rfl | (simp [errW_none, errW_some] <;> rfl) | (simp [*, errW_none, errW_some] <;> rfl), by repeat (first | (with_reducible first | exact HB.out | apply below_alloc | apply pw_below_drewN | apply below_drew1) | exact HB.out)⟩
            · replace c35 := Bool.eq_false_iff.mpr c35
              subst c35
              have H1 : (if 0 < (t186.length : Int) then ((some (t186.set (0 : Int).toNat (⟨(⟨(rd_T56 t186 0).f0.f0, (rd_T56 t186 0).f0.f1⟩ : S23), (rd_T56 t186 0).f1, 91⟩ : S56) : List (S56))).bind fun y191 => (if 1 < (t186.length : Int) then ((gauge_Worn.f kj22 t173 (y191.set (1 : Int).toNat (⟨(⟨(rd_T56 y191 1).f0.f0, (rd_T56 y191 1).f0.f1⟩ : S23), (rd_T56 y191 1).f1, 64⟩ : S56))).bind fun bt193 => (if bt193.2 = 0 then ((slices_Equal_int_int.f kj22 bt193.1 (([0] : List Int))).bind fun t200 => (some t200)) else (some false))) else (none))) else (none)) = some r := by rw [if_neg (show ¬ (false = true) by decide)] at H; exact H
              clear H
              have H := H1
              clear H1
              by_cases c36 : 0 < (t186.length : Int)
              · rw [if_pos c36] at H
                have c36b0 : decide (0 < (t186.length : Int)) = true := decide_eq_true c36
                have c36b1 : decide (0 < t186.length) = true := decide_eq_true (by omega)
                clear c36
                obtain ⟨y191, hy191⟩ : ∃ y_ : List (S56), y_ = (t186.set (0 : Int).toNat (⟨(⟨(rd_T56 t186 0).f0.f0, (rd_T56 t186 0).f0.f1⟩ : S23), (rd_T56 t186 0).f1, 91⟩ : S56)) := ⟨_, rfl⟩
                replace H : (if 1 < (t186.length : Int) then ((gauge_Worn.f kj22 t173 (y191.set (1 : Int).toNat (⟨(⟨(rd_T56 y191 1).f0.f0, (rd_T56 y191 1).f0.f1⟩ : S23), (rd_T56 y191 1).f1, 64⟩ : S56))).bind fun bt193 => (if bt193.2 = 0 then ((slices_Equal_int_int.f kj22 bt193.1 (([0] : List Int))).bind fun t200 => (some t200)) else (some false))) else (none)) = some r := by first | (rw [hy191]; with_reducible exact H) | (have H2_ := (Option.bind_some _ _).symm.trans H; rw [hy191]; with_reducible exact H2_) | (have H2_ := (Option.bind_some _ _).symm.trans H; with_reducible exact H2_) | with_reducible exact H | (rw [hy191]; exact H) | exact H
                have Ny191 := Aside0.mk hy191
                clear hy191
                by_cases c38 : 1 < (t186.length : Int)
                · rw [if_pos c38] at H
                  have c38b0 : decide (1 < (t186.length : Int)) = true := decide_eq_true c38
                  have c38b1 : decide (1 < t186.length) = true := decide_eq_true (by omega)
                  clear c38
                  obtain ⟨y192, hy192⟩ : ∃ y_ : List (S56), y_ = (y191.set (1 : Int).toNat (⟨(⟨(rd_T56 y191 1).f0.f0, (rd_T56 y191 1).f0.f1⟩ : S23), (rd_T56 y191 1).f1, 64⟩ : S56)) := ⟨_, rfl⟩
                  replace H : ((gauge_Worn.f kj22 t173 y192).bind fun bt193 => (if bt193.2 = 0 then ((slices_Equal_int_int.f kj22 bt193.1 (([0] : List Int))).bind fun t200 => (some t200)) else (some false))) = some r := by first | (rw [hy192]; with_reducible exact H) | (have H2_ := (Option.bind_some _ _).symm.trans H; rw [hy192]; with_reducible exact H2_) | (have H2_ := (Option.bind_some _ _).symm.trans H; with_reducible exact H2_) | with_reducible exact H | (rw [hy192]; exact H) | exact H
                  have Ny192 := Aside0.mk hy192
                  clear hy192
                  replace H := Option.bind_eq_some_iff.mp H
                  obtain ⟨⟨t193, t194⟩, A400, H⟩ := H
                  replace H : (if t194 = 0 then ((slices_Equal_int_int.f kj22 t193 (([0] : List Int))).bind fun t200 => (some t200)) else (some false)) = some r := H
                  have A40 := Aside0.mk A400
                  clear A400
                  by_cases c41 : t194 = 0
                  · rw [if_pos c41] at H
                    have c41b0 : (t194 == 0) = true := beq_iff_eq.mpr c41
                    have c41b1 : (t194 != 0) = false := bne_eq_false_iff_eq.mpr c41
                    clear c41
                    obtain ⟨y197, hy197⟩ : ∃ y_ : List Int, y_ = (([0] : List Int)) := ⟨_, rfl⟩
                    replace H : ((slices_Equal_int_int.f kj22 t193 y197).bind fun t200 => (some t200)) = some r := by first | (rw [hy197]; with_reducible exact H) | (have H2_ := (Option.bind_some _ _).symm.trans H; rw [hy197]; with_reducible exact H2_) | (have H2_ := (Option.bind_some _ _).symm.trans H; with_reducible exact H2_) | with_reducible exact H | (rw [hy197]; exact H) | exact H
                    have Ny197 := Aside0.mk hy197
                    clear hy197
                    replace H := Option.bind_eq_some_iff.mp H
                    obtain ⟨t200, A420, H⟩ := H
                    replace H : (some t200) = some r := H
                    have A42 := Aside0.mk A420
                    clear A420
                    obtain rfl := Option.some.inj H
                    have p37 : 0 ≤ (0 : Int) := (by omega)
                    have q37 : (0 : Int) < ((t186.length : Int) : Int) := of_decide_eq_true (by first | (with_reducible assumption) | assumption)
                    have qi37 : (0 < t186.length) = True := eq_true (by omega)
                    obtain ⟨go37, co37, eo37, gb37, gl37, cl37, HG37⟩ := Kd.R_form HO_5.out (by omega)
                    (first | cases eo37 | (injection eo37 with ea_ en_ ec_; (first | subst ea_ | (injection ea_ with ea_; subst ea_)); subst ec_; clear en_))
                    have GB37 := Aside0.mk gb37
                    have GG37 := Aside0.mk HG37
                    clear gb37 gl37 HG37
                    obtain ⟨ce37, hcl37, hM37, hcc37, hfr37⟩ := Kd.R_elem HO_5.out z56 (0 : Int) p37 q37
                    obtain rfl := k56_openM hM37
                    have hx37_0 : wc.cell? ⟨go37, (0 : Int).toNat * 4, none⟩ = some (.int .i64 ((rd_T56 t186 0).f0.f0)) := hcc37 0 _ rfl
                    have hx37_1 : wc.cell? ⟨go37, (0 : Int).toNat * 4 + 1, none⟩ = some (.int .i64 ((rd_T56 t186 0).f0.f1)) := hcc37 1 _ rfl
                    have hx37_2 : wc.cell? ⟨go37, (0 : Int).toNat * 4 + 2, none⟩ = some (.bool ((rd_T56 t186 0).f1)) := hcc37 2 _ rfl
                    have hx37_3 : wc.cell? ⟨go37, (0 : Int).toNat * 4 + 3, none⟩ = some (.int .i64 ((rd_T56 t186 0).f2)) := hcc37 3 _ rfl
                    have hf37_0 : wc.frozen? ⟨go37, (0 : Int).toNat * 4, none⟩ = false := hfr37 0
                    have hf37_1 : wc.frozen? ⟨go37, (0 : Int).toNat * 4 + 1, none⟩ = false := hfr37 1
                    have hf37_2 : wc.frozen? ⟨go37, (0 : Int).toNat * 4 + 2, none⟩ = false := hfr37 2
                    have hf37_3 : wc.frozen? ⟨go37, (0 : Int).toNat * 4 + 3, none⟩ = false := hfr37 3
                    clear hcl37 hcc37 hfr37 hM37
                    (try rw [show ((0 : Int)).toNat = 0 from rfl] at hx37_0)
                    (try simp only [Nat.reduceMul, Nat.zero_mul, Nat.zero_add, Nat.reduceAdd] at hx37_0)
                    (try rw [show ((0 : Int)).toNat = 0 from rfl] at hf37_0)
                    (try simp only [Nat.reduceMul, Nat.zero_mul, Nat.zero_add, Nat.reduceAdd] at hf37_0)
                    (try rw [show ((0 : Int)).toNat = 0 from rfl] at hx37_1)
                    (try simp only [Nat.reduceMul, Nat.zero_mul, Nat.zero_add, Nat.reduceAdd] at hx37_1)
                    (try rw [show ((0 : Int)).toNat = 0 from rfl] at hf37_1)
                    (try simp only [Nat.reduceMul, Nat.zero_mul, Nat.zero_add, Nat.reduceAdd] at hf37_1)
                    (try rw [show ((0 : Int)).toNat = 0 from rfl] at hx37_2)
                    (try simp only [Nat.reduceMul, Nat.zero_mul, Nat.zero_add, Nat.reduceAdd] at hx37_2)
                    (try rw [show ((0 : Int)).toNat = 0 from rfl] at hf37_2)
                    (try simp only [Nat.reduceMul, Nat.zero_mul, Nat.zero_add, Nat.reduceAdd] at hf37_2)
                    (try rw [show ((0 : Int)).toNat = 0 from rfl] at hx37_3)
                    (try simp only [Nat.reduceMul, Nat.zero_mul, Nat.zero_add, Nat.reduceAdd] at hx37_3)
                    (try rw [show ((0 : Int)).toNat = 0 from rfl] at hf37_3)
                    (try simp only [Nat.reduceMul, Nat.zero_mul, Nat.zero_add, Nat.reduceAdd] at hf37_3)
                    replace p37 := eq_true p37
                    replace q37 := eq_true q37
                    have HX43 := Aside0.mk (show Kd.R k56 56 wc w.heap.size (fun _ => True) (.slice (some ⟨go37, 0, none⟩) t186.length co37) t186 from (by (with_reducible repeat (first | apply Kd.R_alloc | apply Kd.R_drewN | apply Kd.R_drew)); exact HO_5.out))
                    obtain ⟨ce43, hcl43, hM43, hcc43, hfr43⟩ := Kd.R_elem HX43.out z56 (0 : Int) (by omega) (by have h_ : (0 : Int) < ((t186.length : Int) : Int) := of_decide_eq_true (by first | (with_reducible assumption) | assumption); first | exact h_ | (have e_ := (Kd.R_reads' HO_5.out).1; omega) | simpa using h_)
                    obtain rfl := k56_openM hM43
                    have HP43 := Kd.R_seg HX43.out (0 : Int) (by omega) (by have h_ : (0 : Int) < ((t186.length : Int) : Int) := of_decide_eq_true (by first | (with_reducible assumption) | assumption); first | exact h_ | (have e_ := (Kd.R_reads' HO_5.out).1; omega) | simpa using h_) (seg := [.int .i64 91]) (j := 3) hcl43 hcc43 (show 4 ≤ 4 from by decide) (x' := (⟨(⟨(rd_T56 t186 0).f0.f0, (rd_T56 t186 0).f0.f1⟩ : S23), (rd_T56 t186 0).f1, 91⟩ : S56)) (k56_mkM _ _ _ (⟨(⟨(rd_T56 t186 0).f0.f0, (rd_T56 t186 0).f0.f1⟩ : S23), (rd_T56 t186 0).f1, 91⟩ : S56) ) (fun _ hk => hk)
                    have hx43_3 := hcc43 3 _ rfl
                    (try simp only [show (k56).sz = 4 from rfl, Nat.mul_one, Nat.add_zero] at hx43_3)
                    (try rw [show ((0 : Int)).toNat = 0 from rfl] at hx43_3)
                    (try simp only [Nat.reduceMul, Nat.zero_mul, Nat.zero_add, Nat.reduceAdd] at hx43_3)
                    have hf43_3 := hfr43 3
                    (try simp only [show (k56).sz = 4 from rfl, Nat.mul_one, Nat.add_zero] at hf43_3)
                    (try rw [show ((0 : Int)).toNat = 0 from rfl] at hf43_3)
                    (try simp only [Nat.reduceMul, Nat.zero_mul, Nat.zero_add, Nat.reduceAdd] at hf43_3)
                    clear hcl43 hcc43 hfr43 hM43
                    go_wp2_with (first | ((with_reducible refine gate_store (t := 3) (p := 86) rfl ?_); refine store_event (t := 3) (p := 86) (v := ?vo_w44) (w1 := (wc.setCell ⟨go37, 3, none⟩ (.int .i64 91))) ?hg ?ho ?hn ?hr ?_; (case ho => rfl); (case hg => rfl); (case hn => rfl); (case hr => first | (go_simp; done) | (go_simp; rfl)); intro w44 hw; have hg : wc.grownBy w44 (some go37) := (by rw [hw]; exact HP43.2); have hp_ : Kd.R k56 56 w44 w.heap.size (fun _ => True) (.slice (some ⟨go37, 0, none⟩) t186.length co37) y191 := (by rw [hw, Ny191.out]; exact HP43.1); clear HP43; have n0_ := Aside0.mk (Kd.R_over' (v := (.slice (some ⟨go37, 0, none⟩) t186.length co37)) (by (with_reducible repeat (first | apply Kd.R_alloc | apply Kd.R_drewN | apply Kd.R_drew)); exact HO_1.out) (Kd.R_typed HO_5.out) (by decide) hg); have n1_ := Aside0.mk (hp_); have n2_ := Aside0.mk ((by rw [hw]; exact below_set (HB.out) GB37.out : Below w.heap.size w w44)); clear HO_1; clear HO_5; clear HB; have HO_1 := n0_; have HO_5 := n1_; have HB := n2_; clear n0_ n1_ n2_; clear hg hw hp_; have p39 : 0 ≤ (1 : Int) := (by omega); have q39 : (1 : Int) < ((t186.length : Int) : Int) := of_decide_eq_true (by first | (with_reducible assumption) | assumption); have qi39 : (1 < t186.length) = True := eq_true (by omega); obtain ⟨ce39, hcl39, hM39, hcc39, hfr39⟩ := Kd.R_elem HO_5.out z56 (1 : Int) p39 q39; obtain rfl := k56_openM hM39; have hx39_0 : w44.cell? ⟨go37, (1 : Int).toNat * 4, none⟩ = some (.int .i64 ((rd_T56 y191 1).f0.f0)) := hcc39 0 _ rfl; have hx39_1 : w44.cell? ⟨go37, (1 : Int).toNat * 4 + 1, none⟩ = some (.int .i64 ((rd_T56 y191 1).f0.f1)) := hcc39 1 _ rfl; have hx39_2 : w44.cell? ⟨go37, (1 : Int).toNat * 4 + 2, none⟩ = some (.bool ((rd_T56 y191 1).f1)) := hcc39 2 _ rfl; have hx39_3 : w44.cell? ⟨go37, (1 : Int).toNat * 4 + 3, none⟩ = some (.int .i64 ((rd_T56 y191 1).f2)) := hcc39 3 _ rfl; have hf39_0 : w44.frozen? ⟨go37, (1 : Int).toNat * 4, none⟩ = false := hfr39 0; have hf39_1 : w44.frozen? ⟨go37, (1 : Int).toNat * 4 + 1, none⟩ = false := hfr39 1; have hf39_2 : w44.frozen? ⟨go37, (1 : Int).toNat * 4 + 2, none⟩ = false := hfr39 2; have hf39_3 : w44.frozen? ⟨go37, (1 : Int).toNat * 4 + 3, none⟩ = false := hfr39 3; clear hcl39 hcc39 hfr39 hM39; (try rw [show ((1 : Int)).toNat = 1 from rfl] at hx39_0); (try simp only [Nat.reduceMul, Nat.zero_mul, Nat.zero_add, Nat.reduceAdd] at hx39_0); (try rw [show ((1 : Int)).toNat = 1 from rfl] at hf39_0); (try simp only [Nat.reduceMul, Nat.zero_mul, Nat.zero_add, Nat.reduceAdd] at hf39_0); (try rw [show ((1 : Int)).toNat = 1 from rfl] at hx39_1); (try simp only [Nat.reduceMul, Nat.zero_mul, Nat.zero_add, Nat.reduceAdd] at hx39_1); (try rw [show ((1 : Int)).toNat = 1 from rfl] at hf39_1); (try simp only [Nat.reduceMul, Nat.zero_mul, Nat.zero_add, Nat.reduceAdd] at hf39_1); (try rw [show ((1 : Int)).toNat = 1 from rfl] at hx39_2); (try simp only [Nat.reduceMul, Nat.zero_mul, Nat.zero_add, Nat.reduceAdd] at hx39_2); (try rw [show ((1 : Int)).toNat = 1 from rfl] at hf39_2); (try simp only [Nat.reduceMul, Nat.zero_mul, Nat.zero_add, Nat.reduceAdd] at hf39_2); (try rw [show ((1 : Int)).toNat = 1 from rfl] at hx39_3); (try simp only [Nat.reduceMul, Nat.zero_mul, Nat.zero_add, Nat.reduceAdd] at hx39_3); (try rw [show ((1 : Int)).toNat = 1 from rfl] at hf39_3); (try simp only [Nat.reduceMul, Nat.zero_mul, Nat.zero_add, Nat.reduceAdd] at hf39_3); replace p39 := eq_true p39; replace q39 := eq_true q39; have HX45 := Aside0.mk (show Kd.R k56 56 w44 w.heap.size (fun _ => True) (.slice (some ⟨go37, 0, none⟩) t186.length co37) y191 from (by (with_reducible repeat (first | apply Kd.R_alloc | apply Kd.R_drewN | apply Kd.R_drew)); exact HO_5.out)); obtain ⟨ce45, hcl45, hM45, hcc45, hfr45⟩ := Kd.R_elem HX45.out z56 (1 : Int) (by omega) (by have h_ : (1 : Int) < ((t186.length : Int) : Int) := of_decide_eq_true (by first | (with_reducible assumption) | assumption); first | exact h_ | (have e_ := (Kd.R_reads' HO_5.out).1; omega) | simpa using h_); obtain rfl := k56_openM hM45; have HP45 := Kd.R_seg HX45.out (1 : Int) (by omega) (by have h_ : (1 : Int) < ((t186.length : Int) : Int) := of_decide_eq_true (by first | (with_reducible assumption) | assumption); first | exact h_ | (have e_ := (Kd.R_reads' HO_5.out).1; omega) | simpa using h_) (seg := [.int .i64 64]) (j := 3) hcl45 hcc45 (show 4 ≤ 4 from by decide) (x' := (⟨(⟨(rd_T56 y191 1).f0.f0, (rd_T56 y191 1).f0.f1⟩ : S23), (rd_T56 y191 1).f1, 64⟩ : S56)) (k56_mkM _ _ _ (⟨(⟨(rd_T56 y191 1).f0.f0, (rd_T56 y191 1).f0.f1⟩ : S23), (rd_T56 y191 1).f1, 64⟩ : S56) ) (fun _ hk => hk); have hx45_3 := hcc45 3 _ rfl; (try simp only [show (k56).sz = 4 from rfl, Nat.mul_one, Nat.add_zero] at hx45_3); (try rw [show ((1 : Int)).toNat = 1 from rfl] at hx45_3); (try simp only [Nat.reduceMul, Nat.zero_mul, Nat.zero_add, Nat.reduceAdd] at hx45_3); have hf45_3 := hfr45 3; (try simp only [show (k56).sz = 4 from rfl, Nat.mul_one, Nat.add_zero] at hf45_3); (try rw [show ((1 : Int)).toNat = 1 from rfl] at hf45_3); (try simp only [Nat.reduceMul, Nat.zero_mul, Nat.zero_add, Nat.reduceAdd] at hf45_3); clear hcl45 hcc45 hfr45 hM45) | ((with_reducible refine gate_store (t := 3) (p := 88) rfl ?_); refine store_event (t := 3) (p := 88) (v := ?vo_w46) (w1 := (w44.setCell ⟨go37, 7, none⟩ (.int .i64 64))) ?hg ?ho ?hn ?hr ?_; (case ho => rfl); (case hg => rfl); (case hn => rfl); (case hr => first | (go_simp; done) | (go_simp; rfl)); intro w46 hw; have hg : w44.grownBy w46 (some go37) := (by rw [hw]; exact HP45.2); have hp_ : Kd.R k56 56 w46 w.heap.size (fun _ => True) (.slice (some ⟨go37, 0, none⟩) t186.length co37) y192 := (by rw [hw, Ny192.out]; exact HP45.1); clear HP45; have n0_ := Aside0.mk (Kd.R_over' (v := (.slice (some ⟨go37, 0, none⟩) t186.length co37)) (by (with_reducible repeat (first | apply Kd.R_alloc | apply Kd.R_drewN | apply Kd.R_drew)); exact HO_1.out) (Kd.R_typed HO_5.out) (by decide) hg); have n1_ := Aside0.mk (hp_); have n2_ := Aside0.mk ((by rw [hw]; exact below_set (HB.out) GB37.out : Below w.heap.size w w46)); clear HO_1; clear HO_5; clear HB; have HO_1 := n0_; have HO_5 := n1_; have HB := n2_; clear n0_ n1_ n2_; clear hg hw hp_) | ((with_reducible refine gate_callee (f := 36) rfl ?_); refine goesL_ (some 92) rfl rfl Tryd.func36 (by kernel_rfl) rfl #[.slice Ao5 t173.length co5, .slice (some ⟨go37, 0, none⟩) y192.length co37] rfl (by (try simp only [List.map_toArray, List.map_cons, List.map_nil]); first | done | (rw [show y192.length = t186.length from (Kd.R_reads' HO_5.out).1.symm] <;> rfl) | rfl | (simp only [List.length_drop, List.length_take]; rfl)) ?_; (with_reducible refine (gauge_Worn.calls kj22 _ _ t173 _ _ y192 t193 t194 _ ?side1 ?side2 ?side3 ?side4 A40.out (by exact sig_below HS.out (by repeat (first | (with_reducible first | exact HB.out | apply below_alloc | apply pw_below_drewN | apply below_drew1 | fail) | exact HB.out)))).mono ?_); (case side1 => repeat (first | exact (Kd.R_reads' HO_1.out).2.2 | (with_reducible refine Kd.C_alloc ?_ _) | (with_reducible refine Kd.C_drewN ?_ _) | (with_reducible refine Kd.C_drew ?_))); (case side2 => exact (Kd.R_reads' HO_1.out).2.1); (case side3 => repeat (first | exact (Kd.R_reads' HO_5.out).2.2 | (with_reducible refine Kd.C_alloc ?_ _) | (with_reducible refine Kd.C_drewN ?_ _) | (with_reducible refine Kd.C_drew ?_))); (case side4 => rw [show y192.length = t186.length from (Kd.R_reads' HO_5.out).1.symm]; exact (Kd.R_reads' HO_5.out).2.1); rintro e w47 ⟨v195, rfl, ho0, hb⟩; refine ⟨_, rfl, ?_⟩; have n0_ := Aside0.mk (Kd.R_below (by (with_reducible repeat (first | apply Kd.R_alloc | apply Kd.R_drewN | apply Kd.R_drew)); exact HO_1.out) hb); have n1_ := Aside0.mk (Kd.R_below (by (with_reducible repeat (first | apply Kd.R_alloc | apply Kd.R_drewN | apply Kd.R_drew)); exact HO_5.out) hb); have n2_ := Aside0.mk (Kd.R_lower ho0 (below_size (by repeat (first | (with_reducible first | exact HB.out | apply below_alloc | apply pw_below_drewN | apply below_drew1) | exact HB.out)))); have n3_ := Aside0.mk (below_step (by repeat (first | (with_reducible first | exact HB.out | apply below_alloc | apply pw_below_drewN | apply below_drew1) | exact HB.out)) hb); clear HO_1; clear HO_5; clear HB; have HO_1 := n0_; have HO_5 := n1_; have HO196 := n2_; have HB := n3_; clear n0_ n1_ n2_ n3_; (try clear hb); (try clear hb2); (try clear hk); (try clear hi); (try clear ho0)) | ((with_reducible refine gate_dst (N := 99) rfl ?_); (try (refine gate_guard (by rfl) ?_; dsimp only)); refine Kd.R_lit (Kd.int .i64) _ 3 ?hg (N := 99) ?hd (xs := ([0] : List Int)) (inner := [.int .i64 0]) (ok := fun _ => True) (okp := fun _ => True) ?hr ?hp (fun _ hk => hk) trivial (Below.refl _ _) (Nat.le_refl _) (by simp) ?_; (case hd => rfl); (case hg => rfl); (case hr => first | (go_simp; done) | (go_simp; rfl)); (case hp => exact (Reps.one (show Kd.M (Kd.int .i64) _ _ _ 0 [.int .i64 0] from rfl) (Reps.none _ _))); intro v198 w48 ho49 hb hg_ hnew_; clear hg_ hnew_; (first | rw [← Ny197.out] at ho49 | (simp only [Int.reduceToNat] at ho49; rw [← Ny197.out] at ho49)); have n0_ := Aside0.mk (Kd.R_below (by (with_reducible repeat (first | apply Kd.R_alloc | apply Kd.R_drewN | apply Kd.R_drew)); exact HO_1.out) hb); have n1_ := Aside0.mk (Kd.R_below (by (with_reducible repeat (first | apply Kd.R_alloc | apply Kd.R_drewN | apply Kd.R_drew)); exact HO_5.out) hb); have n2_ := Aside0.mk (Kd.R_elder' (by (with_reducible repeat (first | apply Kd.R_alloc | apply Kd.R_drewN | apply Kd.R_drew)); exact HO196.out) (Kd.R_base ho49) hb); have n3_ := Aside0.mk (Kd.R_lower (Kd.R_new' ho49 (Kd.R_lt (by (with_reducible repeat (first | apply Kd.R_alloc | apply Kd.R_drewN | apply Kd.R_drew)); exact HO196.out))) (below_size (by repeat (first | (with_reducible first | exact HB.out | apply below_alloc | apply pw_below_drewN | apply below_drew1) | exact HB.out)))); have n4_ := Aside0.mk (below_step (by repeat (first | (with_reducible first | exact HB.out | apply below_alloc | apply pw_below_drewN | apply below_drew1) | exact HB.out)) hb); clear HO_1; clear HO_5; clear HO196; clear HB; have HO_1 := n0_; have HO_5 := n1_; have HO196 := n2_; have HO199 := n3_; have HB := n4_; clear n0_ n1_ n2_ n3_ n4_; clear hb ho49; obtain ⟨Ao50, co50, eo50⟩ := Kd.R_slice HO196.out; subst eo50; obtain ⟨Ao51, co51, eo51⟩ := Kd.R_slice HO199.out; subst eo51) | (go_at_call 55; (with_reducible refine (slices_Equal_int_int.calls kj22 _ _ t193 _ _ y197 t200 _ ?side1 ?side2 ?side3 ?side4 A42.out).mono ?_); (case side1 => repeat (first | exact (Kd.R_reads' HO196.out).2.2 | (with_reducible refine Kd.C_alloc ?_ _) | (with_reducible refine Kd.C_drewN ?_ _) | (with_reducible refine Kd.C_drew ?_))); (case side2 => exact (Kd.R_reads' HO196.out).2.1); (case side3 => repeat (first | exact (Kd.R_reads' HO199.out).2.2 | (with_reducible refine Kd.C_alloc ?_ _) | (with_reducible refine Kd.C_drewN ?_ _) | (with_reducible refine Kd.C_drew ?_))); (case side4 => exact (Kd.R_reads' HO199.out).2.1); rintro e w' ⟨rfl, ⟨nd, rfl⟩⟩))
                    go_ret
                    exact ⟨by first | rfl | (simp [errW_none, errW_some] <;> rfl) | (simp [*, errW_none, errW_some] <;> rfl), by repeat (first | (with_reducible first | exact HB.out | apply below_alloc | apply pw_below_drewN | apply below_drew1) | exact HB.out)⟩
                  · rw [if_neg c41] at H
                    have c41b0 : (t194 == 0) = false := beq_eq_false_iff_ne.mpr c41
                    have c41b1 : (t194 != 0) = true := bne_iff_ne.mpr c41
                    obtain rfl := Option.some.inj H
                    have p37 : 0 ≤ (0 : Int) := (by omega)
                    have q37 : (0 : Int) < ((t186.length : Int) : Int) := of_decide_eq_true (by first | (with_reducible assumption) | assumption)
                    have qi37 : (0 < t186.length) = True := eq_true (by omega)
                    obtain ⟨go37, co37, eo37, gb37, gl37, cl37, HG37⟩ := Kd.R_form HO_5.out (by omega)
                    (first | cases eo37 | (injection eo37 with ea_ en_ ec_; (first | subst ea_ | (injection ea_ with ea_; subst ea_)); subst ec_; clear en_))
                    have GB37 := Aside0.mk gb37
                    have GG37 := Aside0.mk HG37
                    clear gb37 gl37 HG37
                    obtain ⟨ce37, hcl37, hM37, hcc37, hfr37⟩ := Kd.R_elem HO_5.out z56 (0 : Int) p37 q37
                    obtain rfl := k56_openM hM37
                    have hx37_0 : wc.cell? ⟨go37, (0 : Int).toNat * 4, none⟩ = some (.int .i64 ((rd_T56 t186 0).f0.f0)) := hcc37 0 _ rfl
                    have hx37_1 : wc.cell? ⟨go37, (0 : Int).toNat * 4 + 1, none⟩ = some (.int .i64 ((rd_T56 t186 0).f0.f1)) := hcc37 1 _ rfl
                    have hx37_2 : wc.cell? ⟨go37, (0 : Int).toNat * 4 + 2, none⟩ = some (.bool ((rd_T56 t186 0).f1)) := hcc37 2 _ rfl
                    have hx37_3 : wc.cell? ⟨go37, (0 : Int).toNat * 4 + 3, none⟩ = some (.int .i64 ((rd_T56 t186 0).f2)) := hcc37 3 _ rfl
                    have hf37_0 : wc.frozen? ⟨go37, (0 : Int).toNat * 4, none⟩ = false := hfr37 0
                    have hf37_1 : wc.frozen? ⟨go37, (0 : Int).toNat * 4 + 1, none⟩ = false := hfr37 1
                    have hf37_2 : wc.frozen? ⟨go37, (0 : Int).toNat * 4 + 2, none⟩ = false := hfr37 2
                    have hf37_3 : wc.frozen? ⟨go37, (0 : Int).toNat * 4 + 3, none⟩ = false := hfr37 3
                    clear hcl37 hcc37 hfr37 hM37
                    (try rw [show ((0 : Int)).toNat = 0 from rfl] at hx37_0)
                    (try simp only [Nat.reduceMul, Nat.zero_mul, Nat.zero_add, Nat.reduceAdd] at hx37_0)
                    (try rw [show ((0 : Int)).toNat = 0 from rfl] at hf37_0)
                    (try simp only [Nat.reduceMul, Nat.zero_mul, Nat.zero_add, Nat.reduceAdd] at hf37_0)
                    (try rw [show ((0 : Int)).toNat = 0 from rfl] at hx37_1)
                    (try simp only [Nat.reduceMul, Nat.zero_mul, Nat.zero_add, Nat.reduceAdd] at hx37_1)
                    (try rw [show ((0 : Int)).toNat = 0 from rfl] at hf37_1)
                    (try simp only [Nat.reduceMul, Nat.zero_mul, Nat.zero_add, Nat.reduceAdd] at hf37_1)
                    (try rw [show ((0 : Int)).toNat = 0 from rfl] at hx37_2)
                    (try simp only [Nat.reduceMul, Nat.zero_mul, Nat.zero_add, Nat.reduceAdd] at hx37_2)
                    (try rw [show ((0 : Int)).toNat = 0 from rfl] at hf37_2)
                    (try simp only [Nat.reduceMul, Nat.zero_mul, Nat.zero_add, Nat.reduceAdd] at hf37_2)
                    (try rw [show ((0 : Int)).toNat = 0 from rfl] at hx37_3)
                    (try simp only [Nat.reduceMul, Nat.zero_mul, Nat.zero_add, Nat.reduceAdd] at hx37_3)
                    (try rw [show ((0 : Int)).toNat = 0 from rfl] at hf37_3)
                    (try simp only [Nat.reduceMul, Nat.zero_mul, Nat.zero_add, Nat.reduceAdd] at hf37_3)
                    replace p37 := eq_true p37
                    replace q37 := eq_true q37
                    have HX52 := Aside0.mk (show Kd.R k56 56 wc w.heap.size (fun _ => True) (.slice (some ⟨go37, 0, none⟩) t186.length co37) t186 from (by (with_reducible repeat (first | apply Kd.R_alloc | apply Kd.R_drewN | apply Kd.R_drew)); exact HO_5.out))
                    obtain ⟨ce52, hcl52, hM52, hcc52, hfr52⟩ := Kd.R_elem HX52.out z56 (0 : Int) (by omega) (by have h_ : (0 : Int) < ((t186.length : Int) : Int) := of_decide_eq_true (by first | (with_reducible assumption) | assumption); first | exact h_ | (have e_ := (Kd.R_reads' HO_5.out).1; omega) | simpa using h_)
                    obtain rfl := k56_openM hM52
                    have HP52 := Kd.R_seg HX52.out (0 : Int) (by omega) (by have h_ : (0 : Int) < ((t186.length : Int) : Int) := of_decide_eq_true (by first | (with_reducible assumption) | assumption); first | exact h_ | (have e_ := (Kd.R_reads' HO_5.out).1; omega) | simpa using h_) (seg := [.int .i64 91]) (j := 3) hcl52 hcc52 (show 4 ≤ 4 from by decide) (x' := (⟨(⟨(rd_T56 t186 0).f0.f0, (rd_T56 t186 0).f0.f1⟩ : S23), (rd_T56 t186 0).f1, 91⟩ : S56)) (k56_mkM _ _ _ (⟨(⟨(rd_T56 t186 0).f0.f0, (rd_T56 t186 0).f0.f1⟩ : S23), (rd_T56 t186 0).f1, 91⟩ : S56) ) (fun _ hk => hk)
                    have hx52_3 := hcc52 3 _ rfl
                    (try simp only [show (k56).sz = 4 from rfl, Nat.mul_one, Nat.add_zero] at hx52_3)
                    (try rw [show ((0 : Int)).toNat = 0 from rfl] at hx52_3)
                    (try simp only [Nat.reduceMul, Nat.zero_mul, Nat.zero_add, Nat.reduceAdd] at hx52_3)
                    have hf52_3 := hfr52 3
                    (try simp only [show (k56).sz = 4 from rfl, Nat.mul_one, Nat.add_zero] at hf52_3)
                    (try rw [show ((0 : Int)).toNat = 0 from rfl] at hf52_3)
                    (try simp only [Nat.reduceMul, Nat.zero_mul, Nat.zero_add, Nat.reduceAdd] at hf52_3)
                    clear hcl52 hcc52 hfr52 hM52
                    go_wp2_with (first | ((with_reducible refine gate_store (t := 3) (p := 86) rfl ?_); refine store_event (t := 3) (p := 86) (v := ?vo_w53) (w1 := (wc.setCell ⟨go37, 3, none⟩ (.int .i64 91))) ?hg ?ho ?hn ?hr ?_; (case ho => rfl); (case hg => rfl); (case hn => rfl); (case hr => first | (go_simp; done) | (go_simp; rfl)); intro w53 hw; have hg : wc.grownBy w53 (some go37) := (by rw [hw]; exact HP52.2); have hp_ : Kd.R k56 56 w53 w.heap.size (fun _ => True) (.slice (some ⟨go37, 0, none⟩) t186.length co37) y191 := (by rw [hw, Ny191.out]; exact HP52.1); clear HP52; have n0_ := Aside0.mk (Kd.R_over' (v := (.slice (some ⟨go37, 0, none⟩) t186.length co37)) (by (with_reducible repeat (first | apply Kd.R_alloc | apply Kd.R_drewN | apply Kd.R_drew)); exact HO_1.out) (Kd.R_typed HO_5.out) (by decide) hg); have n1_ := Aside0.mk (hp_); have n2_ := Aside0.mk ((by rw [hw]; exact below_set (HB.out) GB37.out : Below w.heap.size w w53)); clear HO_1; clear HO_5; clear HB; have HO_1 := n0_; have HO_5 := n1_; have HB := n2_; clear n0_ n1_ n2_; clear hg hw hp_; have p39 : 0 ≤ (1 : Int) := (by omega); have q39 : (1 : Int) < ((t186.length : Int) : Int) := of_decide_eq_true (by first | (with_reducible assumption) | assumption); have qi39 : (1 < t186.length) = True := eq_true (by omega); obtain ⟨ce39, hcl39, hM39, hcc39, hfr39⟩ := Kd.R_elem HO_5.out z56 (1 : Int) p39 q39; obtain rfl := k56_openM hM39; have hx39_0 : w53.cell? ⟨go37, (1 : Int).toNat * 4, none⟩ = some (.int .i64 ((rd_T56 y191 1).f0.f0)) := hcc39 0 _ rfl; have hx39_1 : w53.cell? ⟨go37, (1 : Int).toNat * 4 + 1, none⟩ = some (.int .i64 ((rd_T56 y191 1).f0.f1)) := hcc39 1 _ rfl; have hx39_2 : w53.cell? ⟨go37, (1 : Int).toNat * 4 + 2, none⟩ = some (.bool ((rd_T56 y191 1).f1)) := hcc39 2 _ rfl; have hx39_3 : w53.cell? ⟨go37, (1 : Int).toNat * 4 + 3, none⟩ = some (.int .i64 ((rd_T56 y191 1).f2)) := hcc39 3 _ rfl; have hf39_0 : w53.frozen? ⟨go37, (1 : Int).toNat * 4, none⟩ = false := hfr39 0; have hf39_1 : w53.frozen? ⟨go37, (1 : Int).toNat * 4 + 1, none⟩ = false := hfr39 1; have hf39_2 : w53.frozen? ⟨go37, (1 : Int).toNat * 4 + 2, none⟩ = false := hfr39 2; have hf39_3 : w53.frozen? ⟨go37, (1 : Int).toNat * 4 + 3, none⟩ = false := hfr39 3; clear hcl39 hcc39 hfr39 hM39; (try rw [show ((1 : Int)).toNat = 1 from rfl] at hx39_0); (try simp only [Nat.reduceMul, Nat.zero_mul, Nat.zero_add, Nat.reduceAdd] at hx39_0); (try rw [show ((1 : Int)).toNat = 1 from rfl] at hf39_0); (try simp only [Nat.reduceMul, Nat.zero_mul, Nat.zero_add, Nat.reduceAdd] at hf39_0); (try rw [show ((1 : Int)).toNat = 1 from rfl] at hx39_1); (try simp only [Nat.reduceMul, Nat.zero_mul, Nat.zero_add, Nat.reduceAdd] at hx39_1); (try rw [show ((1 : Int)).toNat = 1 from rfl] at hf39_1); (try simp only [Nat.reduceMul, Nat.zero_mul, Nat.zero_add, Nat.reduceAdd] at hf39_1); (try rw [show ((1 : Int)).toNat = 1 from rfl] at hx39_2); (try simp only [Nat.reduceMul, Nat.zero_mul, Nat.zero_add, Nat.reduceAdd] at hx39_2); (try rw [show ((1 : Int)).toNat = 1 from rfl] at hf39_2); (try simp only [Nat.reduceMul, Nat.zero_mul, Nat.zero_add, Nat.reduceAdd] at hf39_2); (try rw [show ((1 : Int)).toNat = 1 from rfl] at hx39_3); (try simp only [Nat.reduceMul, Nat.zero_mul, Nat.zero_add, Nat.reduceAdd] at hx39_3); (try rw [show ((1 : Int)).toNat = 1 from rfl] at hf39_3); (try simp only [Nat.reduceMul, Nat.zero_mul, Nat.zero_add, Nat.reduceAdd] at hf39_3); replace p39 := eq_true p39; replace q39 := eq_true q39; have HX54 := Aside0.mk (show Kd.R k56 56 w53 w.heap.size (fun _ => True) (.slice (some ⟨go37, 0, none⟩) t186.length co37) y191 from (by (with_reducible repeat (first | apply Kd.R_alloc | apply Kd.R_drewN | apply Kd.R_drew)); exact HO_5.out)); obtain ⟨ce54, hcl54, hM54, hcc54, hfr54⟩ := Kd.R_elem HX54.out z56 (1 : Int) (by omega) (by have h_ : (1 : Int) < ((t186.length : Int) : Int) := of_decide_eq_true (by first | (with_reducible assumption) | assumption); first | exact h_ | (have e_ := (Kd.R_reads' HO_5.out).1; omega) | simpa using h_); obtain rfl := k56_openM hM54; have HP54 := Kd.R_seg HX54.out (1 : Int) (by omega) (by have h_ : (1 : Int) < ((t186.length : Int) : Int) := of_decide_eq_true (by first | (with_reducible assumption) | assumption); first | exact h_ | (have e_ := (Kd.R_reads' HO_5.out).1; omega) | simpa using h_) (seg := [.int .i64 64]) (j := 3) hcl54 hcc54 (show 4 ≤ 4 from by decide) (x' := (⟨(⟨(rd_T56 y191 1).f0.f0, (rd_T56 y191 1).f0.f1⟩ : S23), (rd_T56 y191 1).f1, 64⟩ : S56)) (k56_mkM _ _ _ (⟨(⟨(rd_T56 y191 1).f0.f0, (rd_T56 y191 1).f0.f1⟩ : S23), (rd_T56 y191 1).f1, 64⟩ : S56) ) (fun _ hk => hk); have hx54_3 := hcc54 3 _ rfl; (try simp only [show (k56).sz = 4 from rfl, Nat.mul_one, Nat.add_zero] at hx54_3); (try rw [show ((1 : Int)).toNat = 1 from rfl] at hx54_3); (try simp only [Nat.reduceMul, Nat.zero_mul, Nat.zero_add, Nat.reduceAdd] at hx54_3); have hf54_3 := hfr54 3; (try simp only [show (k56).sz = 4 from rfl, Nat.mul_one, Nat.add_zero] at hf54_3); (try rw [show ((1 : Int)).toNat = 1 from rfl] at hf54_3); (try simp only [Nat.reduceMul, Nat.zero_mul, Nat.zero_add, Nat.reduceAdd] at hf54_3); clear hcl54 hcc54 hfr54 hM54) | ((with_reducible refine gate_store (t := 3) (p := 88) rfl ?_); refine store_event (t := 3) (p := 88) (v := ?vo_w55) (w1 := (w53.setCell ⟨go37, 7, none⟩ (.int .i64 64))) ?hg ?ho ?hn ?hr ?_; (case ho => rfl); (case hg => rfl); (case hn => rfl); (case hr => first | (go_simp; done) | (go_simp; rfl)); intro w55 hw; have hg : w53.grownBy w55 (some go37) := (by rw [hw]; exact HP54.2); have hp_ : Kd.R k56 56 w55 w.heap.size (fun _ => True) (.slice (some ⟨go37, 0, none⟩) t186.length co37) y192 := (by rw [hw, Ny192.out]; exact HP54.1); clear HP54; have n0_ := Aside0.mk (Kd.R_over' (v := (.slice (some ⟨go37, 0, none⟩) t186.length co37)) (by (with_reducible repeat (first | apply Kd.R_alloc | apply Kd.R_drewN | apply Kd.R_drew)); exact HO_1.out) (Kd.R_typed HO_5.out) (by decide) hg); have n1_ := Aside0.mk (hp_); have n2_ := Aside0.mk ((by rw [hw]; exact below_set (HB.out) GB37.out : Below w.heap.size w w55)); clear HO_1; clear HO_5; clear HB; have HO_1 := n0_; have HO_5 := n1_; have HB := n2_; clear n0_ n1_ n2_; clear hg hw hp_) | ((with_reducible refine gate_callee (f := 36) rfl ?_); refine goesL_ (some 92) rfl rfl Tryd.func36 (by kernel_rfl) rfl #[.slice Ao5 t173.length co5, .slice (some ⟨go37, 0, none⟩) y192.length co37] rfl (by (try simp only [List.map_toArray, List.map_cons, List.map_nil]); first | done | (rw [show y192.length = t186.length from (Kd.R_reads' HO_5.out).1.symm] <;> rfl) | rfl | (simp only [List.length_drop, List.length_take]; rfl)) ?_; (with_reducible refine (gauge_Worn.calls kj22 _ _ t173 _ _ y192 t193 t194 _ ?side1 ?side2 ?side3 ?side4 A40.out (by exact sig_below HS.out (by repeat (first | (with_reducible first | exact HB.out | apply below_alloc | apply pw_below_drewN | apply below_drew1 | fail) | exact HB.out)))).mono ?_); (case side1 => repeat (first | exact (Kd.R_reads' HO_1.out).2.2 | (with_reducible refine Kd.C_alloc ?_ _) | (with_reducible refine Kd.C_drewN ?_ _) | (with_reducible refine Kd.C_drew ?_))); (case side2 => exact (Kd.R_reads' HO_1.out).2.1); (case side3 => repeat (first | exact (Kd.R_reads' HO_5.out).2.2 | (with_reducible refine Kd.C_alloc ?_ _) | (with_reducible refine Kd.C_drewN ?_ _) | (with_reducible refine Kd.C_drew ?_))); (case side4 => rw [show y192.length = t186.length from (Kd.R_reads' HO_5.out).1.symm]; exact (Kd.R_reads' HO_5.out).2.1); rintro e w56 ⟨v195, rfl, ho0, hb⟩; refine ⟨_, rfl, ?_⟩; have n0_ := Aside0.mk (Kd.R_below (by (with_reducible repeat (first | apply Kd.R_alloc | apply Kd.R_drewN | apply Kd.R_drew)); exact HO_1.out) hb); have n1_ := Aside0.mk (Kd.R_below (by (with_reducible repeat (first | apply Kd.R_alloc | apply Kd.R_drewN | apply Kd.R_drew)); exact HO_5.out) hb); have n2_ := Aside0.mk (Kd.R_lower ho0 (below_size (by repeat (first | (with_reducible first | exact HB.out | apply below_alloc | apply pw_below_drewN | apply below_drew1) | exact HB.out)))); have n3_ := Aside0.mk (below_step (by repeat (first | (with_reducible first | exact HB.out | apply below_alloc | apply pw_below_drewN | apply below_drew1) | exact HB.out)) hb); clear HO_1; clear HO_5; clear HB; have HO_1 := n0_; have HO_5 := n1_; have HO196 := n2_; have HB := n3_; clear n0_ n1_ n2_ n3_; (try clear hb); (try clear hb2); (try clear hk); (try clear hi); (try clear ho0)))
                    go_ret
                    exact ⟨by first | rfl | (simp [errW_none, errW_some] <;> rfl) | (simp [*, errW_none, errW_some] <;> rfl), by repeat (first | (with_reducible first | exact HB.out | apply below_alloc | apply pw_below_drewN | apply below_drew1) | exact HB.out)⟩
                · rw [if_neg c38] at H
                  exact absurd H (by simp)
              · rw [if_neg c36] at H
                exact absurd H (by simp)
end Go.Proofs.YtjemaonejkepcaaDoor.G
namespace Go.Proofs.YtjemaonejkepcaaDoor.G
open Go.Proofs.YtjemaonejkepcaaDoor.B
open Go.RowKit Go.Proofs.YtjemaonejkepcaaDoorW.PrintWords
theorem awake_60 : metrolablaw47_awake.f 60 = some true := by decide +kernel
theorem awake_ok (k : Nat) (hk : 60 ≤ k) : metrolablaw47_awake.f k = some true := by
  obtain ⟨j, rfl⟩ : ∃ j, k = 60 + j := ⟨k - 60, by omega⟩
  clear hk
  induction j with
  | zero => exact awake_60
  | succ j ih => exact metrolablaw47_awake.mono (60 + j) _ ih
/-- The element of a right target. -/
def de (W M : Int) (t : S27) : S104 := if t.f4 = true then ⟨⟨t.f0.f0, t.f0.f1⟩, true, ⟨tv t - W - M, tv t - W⟩⟩ else ⟨⟨t.f0.f0, t.f0.f1⟩, false, ⟨tv t + W, tv t + W + M⟩⟩
/-- All elements' sizes are at least 1. -/
def lowOk (W M : Int) : List S27 → Bool
  | [] => true
  | t :: r => decide (1 ≤ (de W M t).f2.f0) && lowOk W M r
/-- The error of a design. -/
def dz (W M : Int) (l : List S27) : Int := if ce l = 0 then (if 0 ≤ W ∧ W ≤ 100000 ∧ 0 ≤ M ∧ M ≤ 100000 then (if lowOk W M l = true then 0 else 14) else 2) else ce l
theorem de_step {sz : List Int} {W M : Int} (hW : 0 ≤ W ∧ W ≤ 100000) (hM : 0 ≤ M ∧ M ≤ 100000) {l : List S27} {i : Int} (h0 : 0 ≤ i) (h1 : i < (l.length : Int)) (hs : sz = l.map tv) (ht : te (rd_T27 l i) = 0) :
    @gauge_Design_1.f (Dat82.mk sz W M) i (rd_T27 l i).f0.f0 (rd_T27 l i).f0.f1 (rd_T27 l i).f1.f0 (rd_T27 l i).f1.f1 (rd_T27 l i).f2 (rd_T27 l i).f3 (rd_T27 l i).f4
      = some (if 1 ≤ (de W M (rd_T27 l i)).f2.f0 then ((de W M (rd_T27 l i)).f0.f0, (de W M (rd_T27 l i)).f0.f1, (de W M (rd_T27 l i)).f1, (de W M (rd_T27 l i)).f2.f0, (de W M (rd_T27 l i)).f2.f1, 0) else (0, 0, false, 0, 0, 14)) := by
  have hl : i < (sz.length : Int) := by rw [hs]; simpa using h1
  have hr : rd sz i = tv (rd_T27 l i) := by rw [hs]; exact getD_map tv l z27 0 (by omega)
  have hv := tv_range ht
  unfold gauge_Design_1.f de
  rw [if_pos h0]
  simp only [hr]
  rw [if_pos hl]
  cases hp : (rd_T27 l i).f4 with
  | true =>
    simp only [if_true]
    rw [w64 (n := tv (rd_T27 l i) - W) (by omega), w64 (by omega)]
    by_cases hL : tv (rd_T27 l i) - W - M < 1
    · rw [if_pos hL, if_neg (by omega)]
    · rw [if_neg hL, if_pos (by omega)]
  | false =>
    simp only [Bool.false_eq_true, if_false]
    rw [w64 (n := tv (rd_T27 l i) + W) (by omega), w64 (by omega)]
    by_cases hL : tv (rd_T27 l i) + W < 1
    · rw [if_pos hL, if_neg (by omega)]
    · rw [if_neg hL, if_pos (by omega)]
theorem low_ok {W M : Int} {t : S27} {r : List S27} (h : 1 ≤ (de W M t).f2.f0) : lowOk W M (t :: r) = lowOk W M r := by
  show (decide (1 ≤ (de W M t).f2.f0) && lowOk W M r) = _; rw [decide_eq_true h]; rfl
theorem low_bad {W M : Int} {t : S27} {r : List S27} (h : ¬ 1 ≤ (de W M t).f2.f0) : lowOk W M (t :: r) = false := by
  show (decide (1 ≤ (de W M t).f2.f0) && lowOk W M r) = _; rw [decide_eq_false h]; rfl
theorem elem_l0 {W M : Int} (hW : 0 ≤ W ∧ W ≤ 100000) (hM : 0 ≤ M ∧ M ≤ 100000) (l : List S27) (hn : l.length ≤ 1000) (hl : ∀ t ∈ l, te t = 0) (d : Nat) : ∀ (k : Nat) (acc : List S104) (i : Int), 0 ≤ i → (l.length : Int) - i = d → acc.length + d ≤ 1000 → d + 4 ≤ k →
    @gauge_Element.l0 (Dat82.mk (l.map tv) W M) k acc l (l.length : Int) i = some (if lowOk W M (l.drop i.toNat) = true then (acc ++ (l.drop i.toNat).map (de W M), 0) else ([], 14)) := by
  induction d with
  | zero =>
    intro k acc i h0 hd ha hk
    obtain ⟨k, rfl⟩ : ∃ m, k = m + 1 := ⟨k - 1, by omega⟩
    rw [drop_end l (by omega)]
    simp only [gauge_Element.l0]
    rw [if_neg (by omega)]; simp [lowOk]
  | succ d ih =>
    intro k acc i h0 hd ha hk
    obtain ⟨k, rfl⟩ : ∃ m, k = m + 1 := ⟨k - 1, by omega⟩
    have h1 : i < (l.length : Int) := by omega
    have hm : te (rd_T27 l i) = 0 := by
      apply hl
      have : l.drop i.toNat = rd_T27 l i :: l.drop (i + 1).toNat := drop_rd l z27 h0 h1
      exact List.mem_of_mem_drop (by rw [this]; exact List.mem_cons_self)
    rw [drop_rd l z27 h0 h1]
    simp only [gauge_Element.l0]
    rw [if_pos h1, if_pos h0, if_pos h1, de_step hW hM h0 h1 rfl hm]
    by_cases hL : 1 ≤ (de W M (rd_T27 l i)).f2.f0
    · rw [if_pos hL]
      simp only [Option.bind_some, if_true]
      rw [if_pos (by omega), up64 h0 (by omega), ih k _ (i + 1) (by omega) (by omega) (by simp; omega) (by omega), low_ok (t := l.getD i.toNat z27) hL]
      by_cases hf : lowOk W M (l.drop (i + 1).toNat) = true
      · rw [if_pos hf, if_pos hf]; simp [rd_T27]
      · rw [if_neg hf, if_neg hf]
    · rw [if_neg hL, low_bad (t := l.getD i.toNat z27) hL]
      simp
theorem gdesign (k : Nat) (hk : 40 ≤ k) (l : List S27) (W M : Int) : gauge_Design.f k l W M = some (if dz W M l = 0 then l.map (de W M) else [], dz W M l) := by
  unfold gauge_Design.f dz
  rw [gvirtual k hk]
  by_cases hc : ce l = 0
  · rw [if_pos hc, if_pos hc]
    simp only [Option.bind_some, if_true]
    by_cases hr : 0 ≤ W ∧ W ≤ 100000 ∧ 0 ≤ M ∧ M ≤ 100000
    · rw [if_neg (show ¬ W < 0 by omega), if_neg (show ¬ 100000 < W by omega), if_neg (show ¬ M < 0 by omega), if_neg (show ¬ 100000 < M by omega), if_pos hr]
      obtain ⟨hn1, hn2, hl⟩ := ce_ok hc
      simp only [gauge_Element.f]
      rw [elem_l0 ⟨hr.1, hr.2.1⟩ hr.2.2 l (by omega) hl l.length k [] 0 (by omega) (by omega) (by simp; omega) (by omega)]
      by_cases hf : lowOk W M l = true
      · simp [hf]
      · simp [hf]
    · rw [if_neg hr]
      by_cases a1 : W < 0
      · rw [if_pos a1]; rfl
      · rw [if_neg a1]
        by_cases a2 : 100000 < W
        · rw [if_pos a2]; rfl
        · rw [if_neg a2]
          by_cases a3 : M < 0
          · rw [if_pos a3]; rfl
          · rw [if_neg a3, if_pos (show 100000 < M by omega)]; rfl
  · rw [if_neg hc, if_neg hc]
    simp only [Option.bind_some]
    rw [if_neg hc, if_neg hc]
end Go.Proofs.YtjemaonejkepcaaDoor.G
namespace Go.Proofs.YtjemaonejkepcaaDoor.G
open Go.Proofs.YtjemaonejkepcaaDoor.B
open Go.RowKit Go.Proofs.YtjemaonejkepcaaDoorW.PrintWords Go.Proofs.YtjemaonejkepcaaDoorW.PrintLast Go.Proofs.YtjemaonejkepcaaDoorW.PrintMore
attribute [local go_sem] max2_int min2_int max_two min_two max_three min_three max_four min_four   -- for this text's walks alone
set_option linter.unusedVariables false
set_option linter.unusedSimpArgs false
attribute [local go_sem high] eqA23 eqA25
mutual
def metrolablaw47_GaugeNarrows.j0 : Nat → List (S27) → List (S104) → Int → List (S104) → Int → Bool → Int → Int → Option (Bool)
  | 0, _, _, _, _, _, _, _, _ => none
  | k + 1, x0, x5, x6, x7, x8, x34, x348000, x348001 => if x34 = true then (if x8 = x6 then ((metrolablaw47_awake.f k).bind fun t358 => (some t358)) else (if x8 = 14 then ((metrolablaw47_awake.f k).bind fun t359 => (some t359)) else (if x8 = 2 then ((metrolablaw47_awake.f k).bind fun t360 => (some t360)) else (some false)))) else (if (x5.length : Int) = (x0.length : Int) then (metrolablaw47_GaugeNarrows.j1 k x0 x5 x7 ((x7.length : Int) != (x0.length : Int)) x348000 x348001) else (metrolablaw47_GaugeNarrows.j1 k x0 x5 x7 true x348000 x348001))
def metrolablaw47_GaugeNarrows.j1 : Nat → List (S27) → List (S104) → List (S104) → Bool → Int → Int → Option (Bool)
  | 0, _, _, _, _, _, _ => none
  | k + 1, x0, x5, x7, x60, x348000, x348001 => if x60 = true then (some false) else (metrolablaw47_GaugeNarrows.l0 k x5 x7 x0 (x0.length : Int) 0 x348000 x348001)
def metrolablaw47_GaugeNarrows.l0 : Nat → List (S104) → List (S104) → List (S27) → Int → Int → Int → Int → Option (Bool)
  | 0, _, _, _, _, _, _, _ => none
  | k + 1, x5, x7, x61, x62, x63, x348000, x348001 => if x63 < x62 then (if 0 ≤ x63 then (if x63 < (x61.length : Int) then ((bonus_Virtual.f k ((rd_T27 x61 x63).f0.f0) ((rd_T27 x61 x63).f0.f1) ((rd_T27 x61 x63).f1.f0) ((rd_T27 x61 x63).f1.f1) ((rd_T27 x61 x63).f2) ((rd_T27 x61 x63).f3) ((rd_T27 x61 x63).f4)).bind fun bt364 => (if bt364.2 = 0 then (if x63 < (x5.length : Int) then (if (!(((rd_T104 x5 x63).f2.f0) == bt364.1) || (!(((rd_T104 x5 x63).f2.f1) == bt364.1))) = true then (metrolablaw47_GaugeNarrows.j3 k x5 x7 x63 bt364.1 x61 x62 x63 true x348000 x348001 ((rd_T27 x61 x63).f0.f0) ((rd_T27 x61 x63).f0.f1) ((rd_T27 x61 x63).f1.f0) ((rd_T27 x61 x63).f1.f1) ((rd_T27 x61 x63).f2) ((rd_T27 x61 x63).f3) ((rd_T27 x61 x63).f4)) else (if (!(((rd_T104 x5 x63).f0.f0) == ((rd_T27 x61 x63).f0.f0)) || (!(((rd_T104 x5 x63).f0.f1) == ((rd_T27 x61 x63).f0.f1)))) = true then (metrolablaw47_GaugeNarrows.j3 k x5 x7 x63 bt364.1 x61 x62 x63 true x348000 x348001 ((rd_T27 x61 x63).f0.f0) ((rd_T27 x61 x63).f0.f1) ((rd_T27 x61 x63).f1.f0) ((rd_T27 x61 x63).f1.f1) ((rd_T27 x61 x63).f2) ((rd_T27 x61 x63).f3) ((rd_T27 x61 x63).f4)) else (metrolablaw47_GaugeNarrows.j3 k x5 x7 x63 bt364.1 x61 x62 x63 (((rd_T104 x5 x63).f1) != ((rd_T27 x61 x63).f4)) x348000 x348001 ((rd_T27 x61 x63).f0.f0) ((rd_T27 x61 x63).f0.f1) ((rd_T27 x61 x63).f1.f0) ((rd_T27 x61 x63).f1.f1) ((rd_T27 x61 x63).f2) ((rd_T27 x61 x63).f3) ((rd_T27 x61 x63).f4)))) else (none)) else (metrolablaw47_GaugeNarrows.j3 k x5 x7 x63 bt364.1 x61 x62 x63 true x348000 x348001 ((rd_T27 x61 x63).f0.f0) ((rd_T27 x61 x63).f0.f1) ((rd_T27 x61 x63).f1.f0) ((rd_T27 x61 x63).f1.f1) ((rd_T27 x61 x63).f2) ((rd_T27 x61 x63).f3) ((rd_T27 x61 x63).f4)))) else (none)) else (none)) else ((metrolablaw47_awake.f k).bind fun t361 => (some t361))
def metrolablaw47_GaugeNarrows.j3 : Nat → List (S104) → List (S104) → Int → Int → List (S27) → Int → Int → Bool → Int → Int → Int → Int → Int → Int → Int → Int → Bool → Option (Bool)
  | 0, _, _, _, _, _, _, _, _, _, _, _, _, _, _, _, _, _ => none
  | k + 1, x5, x7, x9, x11, x61, x62, x63, x105, x348000, x348001, x364000, x364001, x364002, x364003, x364004, x364005, x364006 => if x105 = true then (some false) else (if x364006 = true then (if 0 ≤ x9 then (if x9 < (x7.length : Int) then (if ((rd_T104 x7 x9).f2.f1) > x11 then (some false) else (if (wrap64 (x11 - ((rd_T104 x7 x9).f2.f1))) = x348000 then (metrolablaw47_GaugeNarrows.l0 k x5 x7 x61 x62 (wrap64 (x63 + 1)) x348000 x348001) else (some false))) else (none)) else (none)) else (if 0 ≤ x9 then (if x9 < (x7.length : Int) then (if ((rd_T104 x7 x9).f2.f0) < x11 then (some false) else (if (wrap64 (((rd_T104 x7 x9).f2.f0) - x11)) = x348000 then (metrolablaw47_GaugeNarrows.l0 k x5 x7 x61 x62 (wrap64 (x63 + 1)) x348000 x348001) else (some false))) else (none)) else (none)))
end
def metrolablaw47_GaugeNarrows.f (k : Nat) (l0 : List (S27)) (a1_0 : Int) (a1_1 : Int) : Option (Bool) := (metrolablaw47_few.f l0).bind fun t348 => (if t348 = true then ((gauge_Design.f k l0 0 0).bind fun bt350 => ((gauge_Design.f k l0 a1_0 a1_1).bind fun bt354 => (if bt350.2 = 0 then (metrolablaw47_GaugeNarrows.j0 k l0 bt350.1 bt350.2 bt354.1 bt354.2 (bt354.2 != 0) a1_0 a1_1) else (metrolablaw47_GaugeNarrows.j0 k l0 bt350.1 bt350.2 bt354.1 bt354.2 true a1_0 a1_1)))) else ((metrolablaw47_awake.f k).bind fun t349 => (some t349)))
theorem metrolablaw47_GaugeNarrows.mono_l : ∀ k, (∀ y0 y1 y2 y3 y4 y5 y6 y7, LeO (metrolablaw47_GaugeNarrows.j0 k y0 y1 y2 y3 y4 y5 y6 y7) (metrolablaw47_GaugeNarrows.j0 (k + 1) y0 y1 y2 y3 y4 y5 y6 y7)) ∧ (∀ y0 y1 y2 y3 y4 y5, LeO (metrolablaw47_GaugeNarrows.j1 k y0 y1 y2 y3 y4 y5) (metrolablaw47_GaugeNarrows.j1 (k + 1) y0 y1 y2 y3 y4 y5)) ∧ (∀ y0 y1 y2 y3 y4 y5 y6, LeO (metrolablaw47_GaugeNarrows.l0 k y0 y1 y2 y3 y4 y5 y6) (metrolablaw47_GaugeNarrows.l0 (k + 1) y0 y1 y2 y3 y4 y5 y6)) ∧ (∀ y0 y1 y2 y3 y4 y5 y6 y7 y8 y9 y10 y11 y12 y13 y14 y15 y16, LeO (metrolablaw47_GaugeNarrows.j3 k y0 y1 y2 y3 y4 y5 y6 y7 y8 y9 y10 y11 y12 y13 y14 y15 y16) (metrolablaw47_GaugeNarrows.j3 (k + 1) y0 y1 y2 y3 y4 y5 y6 y7 y8 y9 y10 y11 y12 y13 y14 y15 y16))
  | 0 => ⟨fun _ _ _ _ _ _ _ _ r h => by simp [metrolablaw47_GaugeNarrows.j0] at h, fun _ _ _ _ _ _ r h => by simp [metrolablaw47_GaugeNarrows.j1] at h, fun _ _ _ _ _ _ _ r h => by simp [metrolablaw47_GaugeNarrows.l0] at h, fun _ _ _ _ _ _ _ _ _ _ _ _ _ _ _ _ _ r h => by simp [metrolablaw47_GaugeNarrows.j3] at h⟩
  | k + 1 => by
    obtain ⟨ih0, ih1, ih2, ih3⟩ := metrolablaw47_GaugeNarrows.mono_l k
    refine ⟨?_, ?_, ?_, ?_⟩
    · intro y0 y1 y2 y3 y4 y5 y6 y7
      unfold metrolablaw47_GaugeNarrows.j0
      repeat' first
      | (with_reducible exact ih0 _ _ _ _ _ _ _ _)
      | (with_reducible exact ih1 _ _ _ _ _ _)
      | (with_reducible exact ih2 _ _ _ _ _ _ _)
      | (with_reducible exact ih3 _ _ _ _ _ _ _ _ _ _ _ _ _ _ _ _ _)
      | (with_reducible exact bonus_Virtual.mono _ _ _ _ _ _ _ _)
      | (with_reducible exact gauge_Design.mono _ _ _ _)
      | (with_reducible exact metrolablaw47_awake.mono _)
      | (with_reducible exact LeO.refl _)
      | (with_reducible exact LeO.none _)
      | (with_reducible refine LeO.ite ?_ ?_)
      | (with_reducible refine LeO.bind ?_ (fun _ => ?_))
      | exact ih0 _ _ _ _ _ _ _ _
      | exact ih1 _ _ _ _ _ _
      | exact ih2 _ _ _ _ _ _ _
      | exact ih3 _ _ _ _ _ _ _ _ _ _ _ _ _ _ _ _ _
      | exact bonus_Virtual.mono _ _ _ _ _ _ _ _
      | exact gauge_Design.mono _ _ _ _
      | exact metrolablaw47_awake.mono _
      | exact LeO.none _
      | refine LeO.ite ?_ ?_
      | refine LeO.bind ?_ (fun _ => ?_)
    · intro y0 y1 y2 y3 y4 y5
      unfold metrolablaw47_GaugeNarrows.j1
      repeat' first
      | (with_reducible exact ih0 _ _ _ _ _ _ _ _)
      | (with_reducible exact ih1 _ _ _ _ _ _)
      | (with_reducible exact ih2 _ _ _ _ _ _ _)
      | (with_reducible exact ih3 _ _ _ _ _ _ _ _ _ _ _ _ _ _ _ _ _)
      | (with_reducible exact bonus_Virtual.mono _ _ _ _ _ _ _ _)
      | (with_reducible exact gauge_Design.mono _ _ _ _)
      | (with_reducible exact metrolablaw47_awake.mono _)
      | (with_reducible exact LeO.refl _)
      | (with_reducible exact LeO.none _)
      | (with_reducible refine LeO.ite ?_ ?_)
      | (with_reducible refine LeO.bind ?_ (fun _ => ?_))
      | exact ih0 _ _ _ _ _ _ _ _
      | exact ih1 _ _ _ _ _ _
      | exact ih2 _ _ _ _ _ _ _
      | exact ih3 _ _ _ _ _ _ _ _ _ _ _ _ _ _ _ _ _
      | exact bonus_Virtual.mono _ _ _ _ _ _ _ _
      | exact gauge_Design.mono _ _ _ _
      | exact metrolablaw47_awake.mono _
      | exact LeO.none _
      | refine LeO.ite ?_ ?_
      | refine LeO.bind ?_ (fun _ => ?_)
    · intro y0 y1 y2 y3 y4 y5 y6
      unfold metrolablaw47_GaugeNarrows.l0
      repeat' first
      | (with_reducible exact ih0 _ _ _ _ _ _ _ _)
      | (with_reducible exact ih1 _ _ _ _ _ _)
      | (with_reducible exact ih2 _ _ _ _ _ _ _)
      | (with_reducible exact ih3 _ _ _ _ _ _ _ _ _ _ _ _ _ _ _ _ _)
      | (with_reducible exact bonus_Virtual.mono _ _ _ _ _ _ _ _)
      | (with_reducible exact gauge_Design.mono _ _ _ _)
      | (with_reducible exact metrolablaw47_awake.mono _)
      | (with_reducible exact LeO.refl _)
      | (with_reducible exact LeO.none _)
      | (with_reducible refine LeO.ite ?_ ?_)
      | (with_reducible refine LeO.bind ?_ (fun _ => ?_))
      | exact ih0 _ _ _ _ _ _ _ _
      | exact ih1 _ _ _ _ _ _
      | exact ih2 _ _ _ _ _ _ _
      | exact ih3 _ _ _ _ _ _ _ _ _ _ _ _ _ _ _ _ _
      | exact bonus_Virtual.mono _ _ _ _ _ _ _ _
      | exact gauge_Design.mono _ _ _ _
      | exact metrolablaw47_awake.mono _
      | exact LeO.none _
      | refine LeO.ite ?_ ?_
      | refine LeO.bind ?_ (fun _ => ?_)
    · intro y0 y1 y2 y3 y4 y5 y6 y7 y8 y9 y10 y11 y12 y13 y14 y15 y16
      unfold metrolablaw47_GaugeNarrows.j3
      repeat' first
      | (with_reducible exact ih0 _ _ _ _ _ _ _ _)
      | (with_reducible exact ih1 _ _ _ _ _ _)
      | (with_reducible exact ih2 _ _ _ _ _ _ _)
      | (with_reducible exact ih3 _ _ _ _ _ _ _ _ _ _ _ _ _ _ _ _ _)
      | (with_reducible exact bonus_Virtual.mono _ _ _ _ _ _ _ _)
      | (with_reducible exact gauge_Design.mono _ _ _ _)
      | (with_reducible exact metrolablaw47_awake.mono _)
      | (with_reducible exact LeO.refl _)
      | (with_reducible exact LeO.none _)
      | (with_reducible refine LeO.ite ?_ ?_)
      | (with_reducible refine LeO.bind ?_ (fun _ => ?_))
      | exact ih0 _ _ _ _ _ _ _ _
      | exact ih1 _ _ _ _ _ _
      | exact ih2 _ _ _ _ _ _ _
      | exact ih3 _ _ _ _ _ _ _ _ _ _ _ _ _ _ _ _ _
      | exact bonus_Virtual.mono _ _ _ _ _ _ _ _
      | exact gauge_Design.mono _ _ _ _
      | exact metrolablaw47_awake.mono _
      | exact LeO.none _
      | refine LeO.ite ?_ ?_
      | refine LeO.bind ?_ (fun _ => ?_)
theorem metrolablaw47_GaugeNarrows.mono : ∀ a0 a1 a2 k, LeO (metrolablaw47_GaugeNarrows.f k a0 a1 a2) (metrolablaw47_GaugeNarrows.f (k + 1) a0 a1 a2) := by
  intro a0 a1 a2 k
  obtain ⟨ih0, ih1, ih2, ih3⟩ := metrolablaw47_GaugeNarrows.mono_l k
  unfold metrolablaw47_GaugeNarrows.f
  repeat' first
      | (with_reducible exact ih0 _ _ _ _ _ _ _ _)
      | (with_reducible exact ih1 _ _ _ _ _ _)
      | (with_reducible exact ih2 _ _ _ _ _ _ _)
      | (with_reducible exact ih3 _ _ _ _ _ _ _ _ _ _ _ _ _ _ _ _ _)
      | (with_reducible exact bonus_Virtual.mono _ _ _ _ _ _ _ _)
      | (with_reducible exact gauge_Design.mono _ _ _ _)
      | (with_reducible exact metrolablaw47_awake.mono _)
      | (with_reducible exact LeO.refl _)
      | (with_reducible exact LeO.none _)
      | (with_reducible refine LeO.ite ?_ ?_)
      | (with_reducible refine LeO.bind ?_ (fun _ => ?_))
      | exact ih0 _ _ _ _ _ _ _ _
      | exact ih1 _ _ _ _ _ _
      | exact ih2 _ _ _ _ _ _ _
      | exact ih3 _ _ _ _ _ _ _ _ _ _ _ _ _ _ _ _ _
      | exact bonus_Virtual.mono _ _ _ _ _ _ _ _
      | exact gauge_Design.mono _ _ _ _
      | exact metrolablaw47_awake.mono _
      | exact LeO.none _
      | refine LeO.ite ?_ ?_
      | refine LeO.bind ?_ (fun _ => ?_)
set_option maxHeartbeats 8000000 in
set_option maxRecDepth 100000 in
theorem metrolablaw47_GaugeNarrows.calls (k : Nat) (A0 : Option Addr) (c0 : Nat) (l0 : List (S27)) (a1_0 : Int) (a1_1 : Int) (r : Bool) (w : World) (hr0 : Kd.C k27 w A0 l0.length l0) (hc0 : l0.length ≤ c0) (h : metrolablaw47_GaugeNarrows.f k l0 a1_0 a1_1 = some r) (hS : SignsAt w) :
    Calls Tryd.prog 16 #[.slice A0 l0.length c0, .agg #[.int .i64 a1_0, .int .i64 a1_1]] w fun e w' => e = .returned (.bool r) ∧ Below w.heap.size w w' := by
  have HS := Aside0.mk hS
  clear hS
  have hu44 := Tryd.underlying44
  have hu27 := Tryd.underlying27
  have hu25 := Tryd.underlying25
  have hu23 := Tryd.underlying23
  have HR0 := Aside0.mk hr0
  have HC0 := Aside0.mk hc0
  clear hr0 hc0
  have HB := Aside0.mk (Below.refl w.heap.size w)
  have H : ((metrolablaw47_few.f l0).bind fun t348 => (if t348 = true then ((gauge_Design.f k l0 0 0).bind fun bt350 => ((gauge_Design.f k l0 a1_0 a1_1).bind fun bt354 => (if bt350.2 = 0 then (metrolablaw47_GaugeNarrows.j0 k l0 bt350.1 bt350.2 bt354.1 bt354.2 (bt354.2 != 0) a1_0 a1_1) else (metrolablaw47_GaugeNarrows.j0 k l0 bt350.1 bt350.2 bt354.1 bt354.2 true a1_0 a1_1)))) else ((metrolablaw47_awake.f k).bind fun t349 => (some t349)))) = some r := h
  clear h
  replace H := Option.bind_eq_some_iff.mp H
  obtain ⟨t348, A30, H⟩ := H
  replace H : (if t348 = true then ((gauge_Design.f k l0 0 0).bind fun bt350 => ((gauge_Design.f k l0 a1_0 a1_1).bind fun bt354 => (if bt350.2 = 0 then (metrolablaw47_GaugeNarrows.j0 k l0 bt350.1 bt350.2 bt354.1 bt354.2 (bt354.2 != 0) a1_0 a1_1) else (metrolablaw47_GaugeNarrows.j0 k l0 bt350.1 bt350.2 bt354.1 bt354.2 true a1_0 a1_1)))) else ((metrolablaw47_awake.f k).bind fun t349 => (some t349))) = some r := H
  have A3 := Aside0.mk A30
  clear A30
  by_cases c4 : t348 = true
  · subst c4
    have H1 : ((gauge_Design.f k l0 0 0).bind fun bt350 => ((gauge_Design.f k l0 a1_0 a1_1).bind fun bt354 => (if bt350.2 = 0 then (metrolablaw47_GaugeNarrows.j0 k l0 bt350.1 bt350.2 bt354.1 bt354.2 (bt354.2 != 0) a1_0 a1_1) else (metrolablaw47_GaugeNarrows.j0 k l0 bt350.1 bt350.2 bt354.1 bt354.2 true a1_0 a1_1)))) = some r := by rw [if_pos rfl] at H; exact H
    clear H
    have H := H1
    clear H1
    replace H := Option.bind_eq_some_iff.mp H
    obtain ⟨⟨t350, t353⟩, A50, H⟩ := H
    replace H : ((gauge_Design.f k l0 a1_0 a1_1).bind fun bt354 => (if t353 = 0 then (metrolablaw47_GaugeNarrows.j0 k l0 t350 t353 bt354.1 bt354.2 (bt354.2 != 0) a1_0 a1_1) else (metrolablaw47_GaugeNarrows.j0 k l0 t350 t353 bt354.1 bt354.2 true a1_0 a1_1))) = some r := H
    have A5 := Aside0.mk A50
    clear A50
    replace H := Option.bind_eq_some_iff.mp H
    obtain ⟨⟨t354, t357⟩, A60, H⟩ := H
    replace H : (if t353 = 0 then (metrolablaw47_GaugeNarrows.j0 k l0 t350 t353 t354 t357 (t357 != 0) a1_0 a1_1) else (metrolablaw47_GaugeNarrows.j0 k l0 t350 t353 t354 t357 true a1_0 a1_1)) = some r := H
    have A6 := Aside0.mk A60
    clear A60
    have HC7 := Aside0.mk H
    clear H
    go_enter Tryd.func16, Tryd.ntmps16
    go_upto_region 5 with (first | ((with_reducible refine gate_dst (N := 3) rfl ?_); (try (refine gate_guard (by rfl) ?_; dsimp only)); refine box_event ?hg (N := 3) ?hd (cs := #[.int .i64 a1_0, .int .i64 a1_1]) (t := 44) ?hr ?_; (case hd => rfl); (case hg => rfl); (case hr => first | (go_simp; done) | (go_simp; rfl)); intro gb347 hg w8 hbox hb; have n0_ := Aside0.mk (below_step (by repeat (first | (with_reducible first | exact HB.out | apply below_alloc | apply pw_below_drewN | apply below_drew1) | exact HB.out)) hb); have n1_ := Aside0.mk (hbox); have n2_ := Aside0.mk ((by rw [hg]; exact (below_size (by repeat (first | (with_reducible first | exact HB.out | apply below_alloc | apply pw_below_drewN | apply below_drew1) | exact HB.out))) : w.heap.size ≤ gb347)); have n3_ := Aside0.mk ((by rw [hg]; exact (below_size (by repeat (first | (with_reducible first | exact HB.out | apply below_alloc | apply pw_below_drewN | apply below_drew1) | exact HB.out))) : w.heap.size ≤ gb347)); clear HB; have HB := n0_; have BK347 := n1_; have GW347 := n2_; have GE347 := n3_; clear n0_ n1_ n2_ n3_; clear hb hbox hg) | (go_at_call 29; (with_reducible refine (metrolablaw47_few.calls _ _ l0 true _ ?side1 ?side2 A3.out).mono ?_); (case side1 => repeat (first | exact (Kd.C_below HR0.out HB.out) | (with_reducible refine Kd.C_alloc ?_ _) | (with_reducible refine Kd.C_drewN ?_ _) | (with_reducible refine Kd.C_drew ?_))); (case side2 => exact HC0.out); rintro e w' ⟨rfl, ⟨nd, rfl⟩⟩; (try first | exact ⟨rfl, _, World.drewN_drewN _ _ _⟩ | exact ⟨rfl, _, Eq.trans (World.drewN_drewN _ _ _) (congrArg (World.drewN _) (Nat.add_assoc _ _ _))⟩)) | (go_at_call 31; (with_reducible refine (gauge_Design.calls k _ _ l0 0 0 t350 t353 _ ?side1 ?side2 A5.out (by exact sig_below HS.out (by repeat (first | (with_reducible first | exact HB.out | apply below_alloc | apply pw_below_drewN | apply below_drew1 | refine below_set ?_ GE347.out) | exact HB.out)))).mono ?_); (case side1 => repeat (first | exact (Kd.C_below HR0.out (by repeat (first | (with_reducible first | exact HB.out | apply below_alloc | apply pw_below_drewN | apply below_drew1 | refine below_set ?_ GE347.out) | exact HB.out))) | (with_reducible refine Kd.C_alloc ?_ _) | (with_reducible refine Kd.C_drewN ?_ _) | (with_reducible refine Kd.C_drew ?_))); (case side2 => exact HC0.out); rintro e w9 ⟨v351, rfl, ho0, hb⟩; have n0_ := Aside0.mk (Kd.R_lower ho0 (below_size (by repeat (first | (with_reducible first | exact HB.out | apply below_alloc | apply pw_below_drewN | apply below_drew1 | refine below_set ?_ GE347.out) | exact HB.out)))); have n1_ := Aside0.mk (blk_below (g := gb347) (o := .cells #[.int .i64 a1_0, .int .i64 a1_1] 44 (0, 0)) (by (with_reducible repeat (first | refine blk_drewN ?_ _ | refine blk_drew ?_ | refine blk_alloc ?_ _)); exact BK347.out) hb); have n2_ := Aside0.mk (below_step (by repeat (first | (with_reducible first | exact HB.out | apply below_alloc | apply pw_below_drewN | apply below_drew1 | refine below_set ?_ GE347.out) | exact HB.out)) hb); clear BK347; clear HB; have HO352 := n0_; have BK347 := n1_; have HB := n2_; clear n0_ n1_ n2_; (try clear hb); (try clear hb2); (try clear hk); (try clear hi); (try clear ho0); have hcz10_0 : w9.cell? ⟨gb347, 0, none⟩ = some (.int .i64 a1_0) := (blk_cell BK347.out 0).trans rfl; have hcz10_1 : w9.cell? ⟨gb347, 1, none⟩ = some (.int .i64 a1_1) := (blk_cell BK347.out 1).trans rfl; have hfz10_0 := blk_frozen BK347.out 0; have hfz10_1 := blk_frozen BK347.out 1) | (go_at_call 31; (with_reducible refine (gauge_Design.calls k _ _ l0 a1_0 a1_1 t354 t357 _ ?side1 ?side2 A6.out (by exact sig_below HS.out (by repeat (first | (with_reducible first | exact HB.out | apply below_alloc | apply pw_below_drewN | apply below_drew1 | refine below_set ?_ GE347.out) | exact HB.out)))).mono ?_); (case side1 => repeat (first | exact (Kd.C_below HR0.out HB.out) | (with_reducible refine Kd.C_alloc ?_ _) | (with_reducible refine Kd.C_drewN ?_ _) | (with_reducible refine Kd.C_drew ?_))); (case side2 => exact HC0.out); rintro e w11 ⟨v355, rfl, ho0, hb⟩; have n0_ := Aside0.mk (Kd.R_elder' (by (with_reducible repeat (first | apply Kd.R_alloc | apply Kd.R_drewN | apply Kd.R_drew)); exact HO352.out) (Kd.R_base ho0) hb); have n1_ := Aside0.mk (Kd.R_lower (Kd.R_new' ho0 (Kd.R_lt (by (with_reducible repeat (first | apply Kd.R_alloc | apply Kd.R_drewN | apply Kd.R_drew)); exact HO352.out))) (below_size (by repeat (first | (with_reducible first | exact HB.out | apply below_alloc | apply pw_below_drewN | apply below_drew1 | refine below_set ?_ GE347.out) | exact HB.out)))); have n2_ := Aside0.mk (blk_below (g := gb347) (o := .cells #[.int .i64 a1_0, .int .i64 a1_1] 44 (0, 0)) (by (with_reducible repeat (first | refine blk_drewN ?_ _ | refine blk_drew ?_ | refine blk_alloc ?_ _)); exact BK347.out) hb); have n3_ := Aside0.mk (below_step (by repeat (first | (with_reducible first | exact HB.out | apply below_alloc | apply pw_below_drewN | apply below_drew1 | refine below_set ?_ GE347.out) | exact HB.out)) hb); clear HO352; clear BK347; clear HB; have HO352 := n0_; have HO356 := n1_; have BK347 := n2_; have HB := n3_; clear n0_ n1_ n2_ n3_; (try clear hb); (try clear hb2); (try clear hk); (try clear hi); (try clear ho0)))
    repeat (go_quiet (first | ((with_reducible refine gate_dst (N := 3) rfl ?_); (try (refine gate_guard (by rfl) ?_; dsimp only)); refine box_event ?hg (N := 3) ?hd (cs := #[.int .i64 a1_0, .int .i64 a1_1]) (t := 44) ?hr ?_; (case hd => rfl); (case hg => rfl); (case hr => first | (go_simp; done) | (go_simp; rfl)); intro gb347 hg w8 hbox hb; have n0_ := Aside0.mk (below_step (by repeat (first | (with_reducible first | exact HB.out | apply below_alloc | apply pw_below_drewN | apply below_drew1) | exact HB.out)) hb); have n1_ := Aside0.mk (hbox); have n2_ := Aside0.mk ((by rw [hg]; exact (below_size (by repeat (first | (with_reducible first | exact HB.out | apply below_alloc | apply pw_below_drewN | apply below_drew1) | exact HB.out))) : w.heap.size ≤ gb347)); have n3_ := Aside0.mk ((by rw [hg]; exact (below_size (by repeat (first | (with_reducible first | exact HB.out | apply below_alloc | apply pw_below_drewN | apply below_drew1) | exact HB.out))) : w.heap.size ≤ gb347)); clear HB; have HB := n0_; have BK347 := n1_; have GW347 := n2_; have GE347 := n3_; clear n0_ n1_ n2_ n3_; clear hb hbox hg) | (go_at_call 29; (with_reducible refine (metrolablaw47_few.calls _ _ l0 true _ ?side1 ?side2 A3.out).mono ?_); (case side1 => repeat (first | exact (Kd.C_below HR0.out HB.out) | (with_reducible refine Kd.C_alloc ?_ _) | (with_reducible refine Kd.C_drewN ?_ _) | (with_reducible refine Kd.C_drew ?_))); (case side2 => exact HC0.out); rintro e w' ⟨rfl, ⟨nd, rfl⟩⟩; (try first | exact ⟨rfl, _, World.drewN_drewN _ _ _⟩ | exact ⟨rfl, _, Eq.trans (World.drewN_drewN _ _ _) (congrArg (World.drewN _) (Nat.add_assoc _ _ _))⟩)) | (go_at_call 31; (with_reducible refine (gauge_Design.calls k _ _ l0 0 0 t350 t353 _ ?side1 ?side2 A5.out (by exact sig_below HS.out (by repeat (first | (with_reducible first | exact HB.out | apply below_alloc | apply pw_below_drewN | apply below_drew1 | refine below_set ?_ GE347.out) | exact HB.out)))).mono ?_); (case side1 => repeat (first | exact (Kd.C_below HR0.out (by repeat (first | (with_reducible first | exact HB.out | apply below_alloc | apply pw_below_drewN | apply below_drew1 | refine below_set ?_ GE347.out) | exact HB.out))) | (with_reducible refine Kd.C_alloc ?_ _) | (with_reducible refine Kd.C_drewN ?_ _) | (with_reducible refine Kd.C_drew ?_))); (case side2 => exact HC0.out); rintro e w9 ⟨v351, rfl, ho0, hb⟩; have n0_ := Aside0.mk (Kd.R_lower ho0 (below_size (by repeat (first | (with_reducible first | exact HB.out | apply below_alloc | apply pw_below_drewN | apply below_drew1 | refine below_set ?_ GE347.out) | exact HB.out)))); have n1_ := Aside0.mk (blk_below (g := gb347) (o := .cells #[.int .i64 a1_0, .int .i64 a1_1] 44 (0, 0)) (by (with_reducible repeat (first | refine blk_drewN ?_ _ | refine blk_drew ?_ | refine blk_alloc ?_ _)); exact BK347.out) hb); have n2_ := Aside0.mk (below_step (by repeat (first | (with_reducible first | exact HB.out | apply below_alloc | apply pw_below_drewN | apply below_drew1 | refine below_set ?_ GE347.out) | exact HB.out)) hb); clear BK347; clear HB; have HO352 := n0_; have BK347 := n1_; have HB := n2_; clear n0_ n1_ n2_; (try clear hb); (try clear hb2); (try clear hk); (try clear hi); (try clear ho0); have hcz10_0 : w9.cell? ⟨gb347, 0, none⟩ = some (.int .i64 a1_0) := (blk_cell BK347.out 0).trans rfl; have hcz10_1 : w9.cell? ⟨gb347, 1, none⟩ = some (.int .i64 a1_1) := (blk_cell BK347.out 1).trans rfl; have hfz10_0 := blk_frozen BK347.out 0; have hfz10_1 := blk_frozen BK347.out 1) | (go_at_call 31; (with_reducible refine (gauge_Design.calls k _ _ l0 a1_0 a1_1 t354 t357 _ ?side1 ?side2 A6.out (by exact sig_below HS.out (by repeat (first | (with_reducible first | exact HB.out | apply below_alloc | apply pw_below_drewN | apply below_drew1 | refine below_set ?_ GE347.out) | exact HB.out)))).mono ?_); (case side1 => repeat (first | exact (Kd.C_below HR0.out HB.out) | (with_reducible refine Kd.C_alloc ?_ _) | (with_reducible refine Kd.C_drewN ?_ _) | (with_reducible refine Kd.C_drew ?_))); (case side2 => exact HC0.out); rintro e w11 ⟨v355, rfl, ho0, hb⟩; have n0_ := Aside0.mk (Kd.R_elder' (by (with_reducible repeat (first | apply Kd.R_alloc | apply Kd.R_drewN | apply Kd.R_drew)); exact HO352.out) (Kd.R_base ho0) hb); have n1_ := Aside0.mk (Kd.R_lower (Kd.R_new' ho0 (Kd.R_lt (by (with_reducible repeat (first | apply Kd.R_alloc | apply Kd.R_drewN | apply Kd.R_drew)); exact HO352.out))) (below_size (by repeat (first | (with_reducible first | exact HB.out | apply below_alloc | apply pw_below_drewN | apply below_drew1 | refine below_set ?_ GE347.out) | exact HB.out)))); have n2_ := Aside0.mk (blk_below (g := gb347) (o := .cells #[.int .i64 a1_0, .int .i64 a1_1] 44 (0, 0)) (by (with_reducible repeat (first | refine blk_drewN ?_ _ | refine blk_drew ?_ | refine blk_alloc ?_ _)); exact BK347.out) hb); have n3_ := Aside0.mk (below_step (by repeat (first | (with_reducible first | exact HB.out | apply below_alloc | apply pw_below_drewN | apply below_drew1 | refine below_set ?_ GE347.out) | exact HB.out)) hb); clear HO352; clear BK347; clear HB; have HO352 := n0_; have HO356 := n1_; have BK347 := n2_; have HB := n3_; clear n0_ n1_ n2_ n3_; (try clear hb); (try clear hb2); (try clear hk); (try clear hi); (try clear ho0))); go_upto_region 5 with (first | ((with_reducible refine gate_dst (N := 3) rfl ?_); (try (refine gate_guard (by rfl) ?_; dsimp only)); refine box_event ?hg (N := 3) ?hd (cs := #[.int .i64 a1_0, .int .i64 a1_1]) (t := 44) ?hr ?_; (case hd => rfl); (case hg => rfl); (case hr => first | (go_simp; done) | (go_simp; rfl)); intro gb347 hg w8 hbox hb; have n0_ := Aside0.mk (below_step (by repeat (first | (with_reducible first | exact HB.out | apply below_alloc | apply pw_below_drewN | apply below_drew1) | exact HB.out)) hb); have n1_ := Aside0.mk (hbox); have n2_ := Aside0.mk ((by rw [hg]; exact (below_size (by repeat (first | (with_reducible first | exact HB.out | apply below_alloc | apply pw_below_drewN | apply below_drew1) | exact HB.out))) : w.heap.size ≤ gb347)); have n3_ := Aside0.mk ((by rw [hg]; exact (below_size (by repeat (first | (with_reducible first | exact HB.out | apply below_alloc | apply pw_below_drewN | apply below_drew1) | exact HB.out))) : w.heap.size ≤ gb347)); clear HB; have HB := n0_; have BK347 := n1_; have GW347 := n2_; have GE347 := n3_; clear n0_ n1_ n2_ n3_; clear hb hbox hg) | (go_at_call 29; (with_reducible refine (metrolablaw47_few.calls _ _ l0 true _ ?side1 ?side2 A3.out).mono ?_); (case side1 => repeat (first | exact (Kd.C_below HR0.out HB.out) | (with_reducible refine Kd.C_alloc ?_ _) | (with_reducible refine Kd.C_drewN ?_ _) | (with_reducible refine Kd.C_drew ?_))); (case side2 => exact HC0.out); rintro e w' ⟨rfl, ⟨nd, rfl⟩⟩; (try first | exact ⟨rfl, _, World.drewN_drewN _ _ _⟩ | exact ⟨rfl, _, Eq.trans (World.drewN_drewN _ _ _) (congrArg (World.drewN _) (Nat.add_assoc _ _ _))⟩)) | (go_at_call 31; (with_reducible refine (gauge_Design.calls k _ _ l0 0 0 t350 t353 _ ?side1 ?side2 A5.out (by exact sig_below HS.out (by repeat (first | (with_reducible first | exact HB.out | apply below_alloc | apply pw_below_drewN | apply below_drew1 | refine below_set ?_ GE347.out) | exact HB.out)))).mono ?_); (case side1 => repeat (first | exact (Kd.C_below HR0.out (by repeat (first | (with_reducible first | exact HB.out | apply below_alloc | apply pw_below_drewN | apply below_drew1 | refine below_set ?_ GE347.out) | exact HB.out))) | (with_reducible refine Kd.C_alloc ?_ _) | (with_reducible refine Kd.C_drewN ?_ _) | (with_reducible refine Kd.C_drew ?_))); (case side2 => exact HC0.out); rintro e w9 ⟨v351, rfl, ho0, hb⟩; have n0_ := Aside0.mk (Kd.R_lower ho0 (below_size (by repeat (first | (with_reducible first | exact HB.out | apply below_alloc | apply pw_below_drewN | apply below_drew1 | refine below_set ?_ GE347.out) | exact HB.out)))); have n1_ := Aside0.mk (blk_below (g := gb347) (o := .cells #[.int .i64 a1_0, .int .i64 a1_1] 44 (0, 0)) (by (with_reducible repeat (first | refine blk_drewN ?_ _ | refine blk_drew ?_ | refine blk_alloc ?_ _)); exact BK347.out) hb); have n2_ := Aside0.mk (below_step (by repeat (first | (with_reducible first | exact HB.out | apply below_alloc | apply pw_below_drewN | apply below_drew1 | refine below_set ?_ GE347.out) | exact HB.out)) hb); clear BK347; clear HB; have HO352 := n0_; have BK347 := n1_; have HB := n2_; clear n0_ n1_ n2_; (try clear hb); (try clear hb2); (try clear hk); (try clear hi); (try clear ho0); have hcz10_0 : w9.cell? ⟨gb347, 0, none⟩ = some (.int .i64 a1_0) := (blk_cell BK347.out 0).trans rfl; have hcz10_1 : w9.cell? ⟨gb347, 1, none⟩ = some (.int .i64 a1_1) := (blk_cell BK347.out 1).trans rfl; have hfz10_0 := blk_frozen BK347.out 0; have hfz10_1 := blk_frozen BK347.out 1) | (go_at_call 31; (with_reducible refine (gauge_Design.calls k _ _ l0 a1_0 a1_1 t354 t357 _ ?side1 ?side2 A6.out (by exact sig_below HS.out (by repeat (first | (with_reducible first | exact HB.out | apply below_alloc | apply pw_below_drewN | apply below_drew1 | refine below_set ?_ GE347.out) | exact HB.out)))).mono ?_); (case side1 => repeat (first | exact (Kd.C_below HR0.out HB.out) | (with_reducible refine Kd.C_alloc ?_ _) | (with_reducible refine Kd.C_drewN ?_ _) | (with_reducible refine Kd.C_drew ?_))); (case side2 => exact HC0.out); rintro e w11 ⟨v355, rfl, ho0, hb⟩; have n0_ := Aside0.mk (Kd.R_elder' (by (with_reducible repeat (first | apply Kd.R_alloc | apply Kd.R_drewN | apply Kd.R_drew)); exact HO352.out) (Kd.R_base ho0) hb); have n1_ := Aside0.mk (Kd.R_lower (Kd.R_new' ho0 (Kd.R_lt (by (with_reducible repeat (first | apply Kd.R_alloc | apply Kd.R_drewN | apply Kd.R_drew)); exact HO352.out))) (below_size (by repeat (first | (with_reducible first | exact HB.out | apply below_alloc | apply pw_below_drewN | apply below_drew1 | refine below_set ?_ GE347.out) | exact HB.out)))); have n2_ := Aside0.mk (blk_below (g := gb347) (o := .cells #[.int .i64 a1_0, .int .i64 a1_1] 44 (0, 0)) (by (with_reducible repeat (first | refine blk_drewN ?_ _ | refine blk_drew ?_ | refine blk_alloc ?_ _)); exact BK347.out) hb); have n3_ := Aside0.mk (below_step (by repeat (first | (with_reducible first | exact HB.out | apply below_alloc | apply pw_below_drewN | apply below_drew1 | refine below_set ?_ GE347.out) | exact HB.out)) hb); clear HO352; clear BK347; clear HB; have HO352 := n0_; have HO356 := n1_; have BK347 := n2_; have HB := n3_; clear n0_ n1_ n2_ n3_; (try clear hb); (try clear hb2); (try clear hk); (try clear hi); (try clear ho0))))
    (try simp only [Act.put, List.setIfInBounds_toArray, List.set_cons_zero, List.set_cons_succ])
    go_cut [34] (fun v34 wc => ∃ (kq : Nat) (x34_6 : Bool), v34 = .bool x34_6 ∧ Aside0 (metrolablaw47_GaugeNarrows.j0 kq l0 t350 t353 t354 t357 x34_6 a1_0 a1_1 = some r) ∧ Aside0 (kq ≤ k) ∧ Aside0 (Kd.R k104 104 wc w.heap.size (fun k_ => some k_ ≠ (v355 : Value).ownBlock) v351 t350) ∧ Aside0 (Kd.R k104 104 wc w.heap.size (fun k_ => some k_ ≠ (v351 : Value).ownBlock) v355 t354) ∧ Aside0 (wc.heap[gb347]? = some (.cells #[.int .i64 a1_0, .int .i64 a1_1] 44 (0, 0))) ∧ Aside0 (Below w.heap.size w wc))
    case first =>
      have H := HC7.out
      clear HC7
      by_cases c12 : t353 = 0
      · rw [if_pos c12] at H
        have c12b0 : (t353 == 0) = true := beq_iff_eq.mpr c12
        have c12b1 : (t353 != 0) = false := bne_eq_false_iff_eq.mpr c12
        clear c12
        (first | rw [c12b0] | (simp only [i64_w, i32_w]; rw [c12b0]) | skip)
        have H' := Aside0.mk H
        clear H
        go_wp2
        repeat (go_quiet (fail); try go_wp2)
        go_meet
        case rel => exact ⟨_, ((t357 != 0)), (by first | rfl | (simp; done) | (simp [*]; done)), H', ⟨by first | omega | exact Nat.le_refl _⟩, ⟨by (with_reducible repeat (first | apply Kd.R_alloc | apply Kd.R_drewN | apply Kd.R_drew)); exact Kd.R_mono HO352.out (fun _ hk => hk.2)⟩, ⟨by (with_reducible repeat (first | apply Kd.R_alloc | apply Kd.R_drewN | apply Kd.R_drew)); exact Kd.R_mono HO356.out (fun _ hk => hk.2)⟩, ⟨by (with_reducible repeat (first | refine blk_drewN ?_ _ | refine blk_drew ?_ | refine blk_alloc ?_ _)); exact BK347.out⟩, ⟨by repeat (first | (with_reducible first | exact HB.out | apply below_alloc | apply pw_below_drewN | apply below_drew1 | refine below_set ?_ GE347.out) | exact HB.out)⟩⟩
      · rw [if_neg c12] at H
        have c12b0 : (t353 == 0) = false := beq_eq_false_iff_ne.mpr c12
        have c12b1 : (t353 != 0) = true := bne_iff_ne.mpr c12
        (first | rw [c12b0] | (simp only [i64_w, i32_w]; rw [c12b0]) | skip)
        have H' := Aside0.mk H
        clear H
        go_wp2
        repeat (go_quiet (fail); try go_wp2)
        go_meet
        case rel => exact ⟨_, (true), (by first | rfl | (simp; done) | (simp [*]; done)), H', ⟨by first | omega | exact Nat.le_refl _⟩, ⟨by (with_reducible repeat (first | apply Kd.R_alloc | apply Kd.R_drewN | apply Kd.R_drew)); exact Kd.R_mono HO352.out (fun _ hk => hk.2)⟩, ⟨by (with_reducible repeat (first | apply Kd.R_alloc | apply Kd.R_drewN | apply Kd.R_drew)); exact Kd.R_mono HO356.out (fun _ hk => hk.2)⟩, ⟨by (with_reducible repeat (first | refine blk_drewN ?_ _ | refine blk_drew ?_ | refine blk_alloc ?_ _)); exact BK347.out⟩, ⟨by repeat (first | (with_reducible first | exact HB.out | apply below_alloc | apply pw_below_drewN | apply below_drew1 | refine below_set ?_ GE347.out) | exact HB.out)⟩⟩
    case rest =>
      clear HC7
      try clear c1
      try clear p2
      try clear c4
      try clear c12
      try clear c12b0
      try clear c12b1
      try clear hcz10_0
      try clear hcz10_1
      try clear hfz10_0
      try clear hfz10_1
      obtain ⟨kq, x34_6, rfl, HA, HJ6, HO_5, HO_7, BK347, HB⟩ := hcut
      cases kq with
      | zero => exact absurd HA.out (by simp [metrolablaw47_GaugeNarrows.j0])
      | succ kj6 =>
        have H := HA.out
        clear HA
        simp only [metrolablaw47_GaugeNarrows.j0] at H
        by_cases c13 : x34_6 = true
        · subst c13
          have H1 : (if t357 = t353 then ((metrolablaw47_awake.f kj6).bind fun t358 => (some t358)) else (if t357 = 14 then ((metrolablaw47_awake.f kj6).bind fun t359 => (some t359)) else (if t357 = 2 then ((metrolablaw47_awake.f kj6).bind fun t360 => (some t360)) else (some false)))) = some r := by rw [if_pos rfl] at H; exact H
          clear H
          have H := H1
          clear H1
          by_cases c14 : t357 = t353
          · rw [if_pos c14] at H
            have c14b0 : (t357 == t353) = true := beq_iff_eq.mpr c14
            have c14b1 : (t357 != t353) = false := bne_eq_false_iff_eq.mpr c14
            clear c14
            replace H := Option.bind_eq_some_iff.mp H
            obtain ⟨t358, A150, H⟩ := H
            replace H : (some t358) = some r := H
            have A15 := Aside0.mk A150
            clear A150
            obtain rfl := Option.some.inj H
            go_wp2_with (first | (go_at_call 30; (with_reducible refine (metrolablaw47_awake.calls kj6  t358 _ A15.out (by exact sig_below HS.out (by repeat (first | (with_reducible first | exact HB.out | apply below_alloc | apply pw_below_drewN | apply below_drew1 | refine below_set ?_ GE347.out) | exact HB.out)))).mono ?_); rintro e w16 ⟨rfl, hb⟩; have n0_ := Aside0.mk (Kd.R_below (by (with_reducible repeat (first | apply Kd.R_alloc | apply Kd.R_drewN | apply Kd.R_drew)); exact HO_5.out) hb); have n1_ := Aside0.mk (Kd.R_below (by (with_reducible repeat (first | apply Kd.R_alloc | apply Kd.R_drewN | apply Kd.R_drew)); exact HO_7.out) hb); have n2_ := Aside0.mk (blk_below (g := gb347) (o := .cells #[.int .i64 a1_0, .int .i64 a1_1] 44 (0, 0)) (by (with_reducible repeat (first | refine blk_drewN ?_ _ | refine blk_drew ?_ | refine blk_alloc ?_ _)); exact BK347.out) hb); have n3_ := Aside0.mk (below_step (by repeat (first | (with_reducible first | exact HB.out | apply below_alloc | apply pw_below_drewN | apply below_drew1 | refine below_set ?_ GE347.out) | exact HB.out)) hb); clear HO_5; clear HO_7; clear BK347; clear HB; have HO_5 := n0_; have HO_7 := n1_; have BK347 := n2_; have HB := n3_; clear n0_ n1_ n2_ n3_; (try clear hb); (try clear hb2); (try clear hk); (try clear hi)))
            repeat (go_quiet (first | (go_at_call 30; (with_reducible refine (metrolablaw47_awake.calls kj6  t358 _ A15.out (by exact sig_below HS.out (by repeat (first | (with_reducible first | exact HB.out | apply below_alloc | apply pw_below_drewN | apply below_drew1 | refine below_set ?_ GE347.out) | exact HB.out)))).mono ?_); rintro e w16 ⟨rfl, hb⟩; have n0_ := Aside0.mk (Kd.R_below (by (with_reducible repeat (first | apply Kd.R_alloc | apply Kd.R_drewN | apply Kd.R_drew)); exact HO_5.out) hb); have n1_ := Aside0.mk (Kd.R_below (by (with_reducible repeat (first | apply Kd.R_alloc | apply Kd.R_drewN | apply Kd.R_drew)); exact HO_7.out) hb); have n2_ := Aside0.mk (blk_below (g := gb347) (o := .cells #[.int .i64 a1_0, .int .i64 a1_1] 44 (0, 0)) (by (with_reducible repeat (first | refine blk_drewN ?_ _ | refine blk_drew ?_ | refine blk_alloc ?_ _)); exact BK347.out) hb); have n3_ := Aside0.mk (below_step (by repeat (first | (with_reducible first | exact HB.out | apply below_alloc | apply pw_below_drewN | apply below_drew1 | refine below_set ?_ GE347.out) | exact HB.out)) hb); clear HO_5; clear HO_7; clear BK347; clear HB; have HO_5 := n0_; have HO_7 := n1_; have BK347 := n2_; have HB := n3_; clear n0_ n1_ n2_ n3_; (try clear hb); (try clear hb2); (try clear hk); (try clear hi))); try go_wp2_with (first | (go_at_call 30; (with_reducible refine (metrolablaw47_awake.calls kj6  t358 _ A15.out (by exact sig_below HS.out (by repeat (first | (with_reducible first | exact HB.out | apply below_alloc | apply pw_below_drewN | apply below_drew1 | refine below_set ?_ GE347.out) | exact HB.out)))).mono ?_); rintro e w16 ⟨rfl, hb⟩; have n0_ := Aside0.mk (Kd.R_below (by (with_reducible repeat (first | apply Kd.R_alloc | apply Kd.R_drewN | apply Kd.R_drew)); exact HO_5.out) hb); have n1_ := Aside0.mk (Kd.R_below (by (with_reducible repeat (first | apply Kd.R_alloc | apply Kd.R_drewN | apply Kd.R_drew)); exact HO_7.out) hb); have n2_ := Aside0.mk (blk_below (g := gb347) (o := .cells #[.int .i64 a1_0, .int .i64 a1_1] 44 (0, 0)) (by (with_reducible repeat (first | refine blk_drewN ?_ _ | refine blk_drew ?_ | refine blk_alloc ?_ _)); exact BK347.out) hb); have n3_ := Aside0.mk (below_step (by repeat (first | (with_reducible first | exact HB.out | apply below_alloc | apply pw_below_drewN | apply below_drew1 | refine below_set ?_ GE347.out) | exact HB.out)) hb); clear HO_5; clear HO_7; clear BK347; clear HB; have HO_5 := n0_; have HO_7 := n1_; have BK347 := n2_; have HB := n3_; clear n0_ n1_ n2_ n3_; (try clear hb); (try clear hb2); (try clear hk); (try clear hi))))
            go_ret
            exact ⟨by first | rfl | (simp [errW_none, errW_some] <;> rfl) | (simp [*, errW_none, errW_some] <;> rfl), by repeat (first | (with_reducible first | exact HB.out | apply below_alloc | apply pw_below_drewN | apply below_drew1 | refine below_set ?_ GE347.out) | exact HB.out)⟩
          · rw [if_neg c14] at H
            have c14b0 : (t357 == t353) = false := beq_eq_false_iff_ne.mpr c14
            have c14b1 : (t357 != t353) = true := bne_iff_ne.mpr c14
            by_cases c17 : t357 = 14
            · rw [if_pos c17] at H
              have c17b0 : (t357 == 14) = true := beq_iff_eq.mpr c17
              have c17b1 : (t357 != 14) = false := bne_eq_false_iff_eq.mpr c17
              clear c17
              replace H := Option.bind_eq_some_iff.mp H
              obtain ⟨t359, A180, H⟩ := H
              replace H : (some t359) = some r := H
              have A18 := Aside0.mk A180
              clear A180
              obtain rfl := Option.some.inj H
              go_wp2_with (first | (go_at_call 30; (with_reducible refine (metrolablaw47_awake.calls kj6  t359 _ A18.out (by exact sig_below HS.out (by repeat (first | (with_reducible first | exact HB.out | apply below_alloc | apply pw_below_drewN | apply below_drew1 | refine below_set ?_ GE347.out) | exact HB.out)))).mono ?_); rintro e w19 ⟨rfl, hb⟩; have n0_ := Aside0.mk (Kd.R_below (by (with_reducible repeat (first | apply Kd.R_alloc | apply Kd.R_drewN | apply Kd.R_drew)); exact HO_5.out) hb); have n1_ := Aside0.mk (Kd.R_below (by (with_reducible repeat (first | apply Kd.R_alloc | apply Kd.R_drewN | apply Kd.R_drew)); exact HO_7.out) hb); have n2_ := Aside0.mk (blk_below (g := gb347) (o := .cells #[.int .i64 a1_0, .int .i64 a1_1] 44 (0, 0)) (by (with_reducible repeat (first | refine blk_drewN ?_ _ | refine blk_drew ?_ | refine blk_alloc ?_ _)); exact BK347.out) hb); have n3_ := Aside0.mk (below_step (by repeat (first | (with_reducible first | exact HB.out | apply below_alloc | apply pw_below_drewN | apply below_drew1 | refine below_set ?_ GE347.out) | exact HB.out)) hb); clear HO_5; clear HO_7; clear BK347; clear HB; have HO_5 := n0_; have HO_7 := n1_; have BK347 := n2_; have HB := n3_; clear n0_ n1_ n2_ n3_; (try clear hb); (try clear hb2); (try clear hk); (try clear hi)))
              repeat (go_quiet (first | (go_at_call 30; (with_reducible refine (metrolablaw47_awake.calls kj6  t359 _ A18.out (by exact sig_below HS.out (by repeat (first | (with_reducible first | exact HB.out | apply below_alloc | apply pw_below_drewN | apply below_drew1 | refine below_set ?_ GE347.out) | exact HB.out)))).mono ?_); rintro e w19 ⟨rfl, hb⟩; have n0_ := Aside0.mk (Kd.R_below (by (with_reducible repeat (first | apply Kd.R_alloc | apply Kd.R_drewN | apply Kd.R_drew)); exact HO_5.out) hb); have n1_ := Aside0.mk (Kd.R_below (by (with_reducible repeat (first | apply Kd.R_alloc | apply Kd.R_drewN | apply Kd.R_drew)); exact HO_7.out) hb); have n2_ := Aside0.mk (blk_below (g := gb347) (o := .cells #[.int .i64 a1_0, .int .i64 a1_1] 44 (0, 0)) (by (with_reducible repeat (first | refine blk_drewN ?_ _ | refine blk_drew ?_ | refine blk_alloc ?_ _)); exact BK347.out) hb); have n3_ := Aside0.mk (below_step (by repeat (first | (with_reducible first | exact HB.out | apply below_alloc | apply pw_below_drewN | apply below_drew1 | refine below_set ?_ GE347.out) | exact HB.out)) hb); clear HO_5; clear HO_7; clear BK347; clear HB; have HO_5 := n0_; have HO_7 := n1_; have BK347 := n2_; have HB := n3_; clear n0_ n1_ n2_ n3_; (try clear hb); (try clear hb2); (try clear hk); (try clear hi))); try go_wp2_with (first | (go_at_call 30; (with_reducible refine (metrolablaw47_awake.calls kj6  t359 _ A18.out (by exact sig_below HS.out (by repeat (first | (with_reducible first | exact HB.out | apply below_alloc | apply pw_below_drewN | apply below_drew1 | refine below_set ?_ GE347.out) | exact HB.out)))).mono ?_); rintro e w19 ⟨rfl, hb⟩; have n0_ := Aside0.mk (Kd.R_below (by (with_reducible repeat (first | apply Kd.R_alloc | apply Kd.R_drewN | apply Kd.R_drew)); exact HO_5.out) hb); have n1_ := Aside0.mk (Kd.R_below (by (with_reducible repeat (first | apply Kd.R_alloc | apply Kd.R_drewN | apply Kd.R_drew)); exact HO_7.out) hb); have n2_ := Aside0.mk (blk_below (g := gb347) (o := .cells #[.int .i64 a1_0, .int .i64 a1_1] 44 (0, 0)) (by (with_reducible repeat (first | refine blk_drewN ?_ _ | refine blk_drew ?_ | refine blk_alloc ?_ _)); exact BK347.out) hb); have n3_ := Aside0.mk (below_step (by repeat (first | (with_reducible first | exact HB.out | apply below_alloc | apply pw_below_drewN | apply below_drew1 | refine below_set ?_ GE347.out) | exact HB.out)) hb); clear HO_5; clear HO_7; clear BK347; clear HB; have HO_5 := n0_; have HO_7 := n1_; have BK347 := n2_; have HB := n3_; clear n0_ n1_ n2_ n3_; (try clear hb); (try clear hb2); (try clear hk); (try clear hi))))
              go_ret
              exact ⟨by first | rfl | (simp [errW_none, errW_some] <;> rfl) | (simp [*, errW_none, errW_some] <;> rfl), by repeat (first | (with_reducible first | exact HB.out | apply below_alloc | apply pw_below_drewN | apply below_drew1 | refine below_set ?_ GE347.out) | exact HB.out)⟩
            · rw [if_neg c17] at H
              have c17b0 : (t357 == 14) = false := beq_eq_false_iff_ne.mpr c17
              have c17b1 : (t357 != 14) = true := bne_iff_ne.mpr c17
              by_cases c20 : t357 = 2
              · rw [if_pos c20] at H
                have c20b0 : (t357 == 2) = true := beq_iff_eq.mpr c20
                have c20b1 : (t357 != 2) = false := bne_eq_false_iff_eq.mpr c20
                clear c20
                replace H := Option.bind_eq_some_iff.mp H
                obtain ⟨t360, A210, H⟩ := H
                replace H : (some t360) = some r := H
                have A21 := Aside0.mk A210
                clear A210
                obtain rfl := Option.some.inj H
                go_wp2_with (first | (go_at_call 30; (with_reducible refine (metrolablaw47_awake.calls kj6  t360 _ A21.out (by exact sig_below HS.out (by repeat (first | (with_reducible first | exact HB.out | apply below_alloc | apply pw_below_drewN | apply below_drew1 | refine below_set ?_ GE347.out) | exact HB.out)))).mono ?_); rintro e w22 ⟨rfl, hb⟩; have n0_ := Aside0.mk (Kd.R_below (by (with_reducible repeat (first | apply Kd.R_alloc | apply Kd.R_drewN | apply Kd.R_drew)); exact HO_5.out) hb); have n1_ := Aside0.mk (Kd.R_below (by (with_reducible repeat (first | apply Kd.R_alloc | apply Kd.R_drewN | apply Kd.R_drew)); exact HO_7.out) hb); have n2_ := Aside0.mk (blk_below (g := gb347) (o := .cells #[.int .i64 a1_0, .int .i64 a1_1] 44 (0, 0)) (by (with_reducible repeat (first | refine blk_drewN ?_ _ | refine blk_drew ?_ | refine blk_alloc ?_ _)); exact BK347.out) hb); have n3_ := Aside0.mk (below_step (by repeat (first | (with_reducible first | exact HB.out | apply below_alloc | apply pw_below_drewN | apply below_drew1 | refine below_set ?_ GE347.out) | exact HB.out)) hb); clear HO_5; clear HO_7; clear BK347; clear HB; have HO_5 := n0_; have HO_7 := n1_; have BK347 := n2_; have HB := n3_; clear n0_ n1_ n2_ n3_; (try clear hb); (try clear hb2); (try clear hk); (try clear hi)))
                repeat (go_quiet (first | (go_at_call 30; (with_reducible refine (metrolablaw47_awake.calls kj6  t360 _ A21.out (by exact sig_below HS.out (by repeat (first | (with_reducible first | exact HB.out | apply below_alloc | apply pw_below_drewN | apply below_drew1 | refine below_set ?_ GE347.out) | exact HB.out)))).mono ?_); rintro e w22 ⟨rfl, hb⟩; have n0_ := Aside0.mk (Kd.R_below (by (with_reducible repeat (first | apply Kd.R_alloc | apply Kd.R_drewN | apply Kd.R_drew)); exact HO_5.out) hb); have n1_ := Aside0.mk (Kd.R_below (by (with_reducible repeat (first | apply Kd.R_alloc | apply Kd.R_drewN | apply Kd.R_drew)); exact HO_7.out) hb); have n2_ := Aside0.mk (blk_below (g := gb347) (o := .cells #[.int .i64 a1_0, .int .i64 a1_1] 44 (0, 0)) (by (with_reducible repeat (first | refine blk_drewN ?_ _ | refine blk_drew ?_ | refine blk_alloc ?_ _)); exact BK347.out) hb); have n3_ := Aside0.mk (below_step (by repeat (first | (with_reducible first | exact HB.out | apply below_alloc | apply pw_below_drewN | apply below_drew1 | refine below_set ?_ GE347.out) | exact HB.out)) hb); clear HO_5; clear HO_7; clear BK347; clear HB; have HO_5 := n0_; have HO_7 := n1_; have BK347 := n2_; have HB := n3_; clear n0_ n1_ n2_ n3_; (try clear hb); (try clear hb2); (try clear hk); (try clear hi))); try go_wp2_with (first | (go_at_call 30; (with_reducible refine (metrolablaw47_awake.calls kj6  t360 _ A21.out (by exact sig_below HS.out (by repeat (first | (with_reducible first | exact HB.out | apply below_alloc | apply pw_below_drewN | apply below_drew1 | refine below_set ?_ GE347.out) | exact HB.out)))).mono ?_); rintro e w22 ⟨rfl, hb⟩; have n0_ := Aside0.mk (Kd.R_below (by (with_reducible repeat (first | apply Kd.R_alloc | apply Kd.R_drewN | apply Kd.R_drew)); exact HO_5.out) hb); have n1_ := Aside0.mk (Kd.R_below (by (with_reducible repeat (first | apply Kd.R_alloc | apply Kd.R_drewN | apply Kd.R_drew)); exact HO_7.out) hb); have n2_ := Aside0.mk (blk_below (g := gb347) (o := .cells #[.int .i64 a1_0, .int .i64 a1_1] 44 (0, 0)) (by (with_reducible repeat (first | refine blk_drewN ?_ _ | refine blk_drew ?_ | refine blk_alloc ?_ _)); exact BK347.out) hb); have n3_ := Aside0.mk (below_step (by repeat (first | (with_reducible first | exact HB.out | apply below_alloc | apply pw_below_drewN | apply below_drew1 | refine below_set ?_ GE347.out) | exact HB.out)) hb); clear HO_5; clear HO_7; clear BK347; clear HB; have HO_5 := n0_; have HO_7 := n1_; have BK347 := n2_; have HB := n3_; clear n0_ n1_ n2_ n3_; (try clear hb); (try clear hb2); (try clear hk); (try clear hi))))
                go_ret
                exact ⟨by first | rfl | (simp [errW_none, errW_some] <;> rfl) | (simp [*, errW_none, errW_some] <;> rfl), by repeat (first | (with_reducible first | exact HB.out | apply below_alloc | apply pw_below_drewN | apply below_drew1 | refine below_set ?_ GE347.out) | exact HB.out)⟩
              · rw [if_neg c20] at H
                have c20b0 : (t357 == 2) = false := beq_eq_false_iff_ne.mpr c20
                have c20b1 : (t357 != 2) = true := bne_iff_ne.mpr c20
                obtain rfl := Option.some.inj H
                go_wp2
                repeat (go_quiet (fail); try go_wp2)
                go_ret
                exact ⟨by first | rfl | (simp [errW_none, errW_some] <;> rfl) | (simp [*, errW_none, errW_some] <;> rfl), by repeat (first | (with_reducible first | exact HB.out | apply below_alloc | apply pw_below_drewN | apply below_drew1 | refine below_set ?_ GE347.out) | exact HB.out)⟩
        · replace c13 := Bool.eq_false_iff.mpr c13
          subst c13
          have H1 : (if (t350.length : Int) = (l0.length : Int) then (metrolablaw47_GaugeNarrows.j1 kj6 l0 t350 t354 ((t354.length : Int) != (l0.length : Int)) a1_0 a1_1) else (metrolablaw47_GaugeNarrows.j1 kj6 l0 t350 t354 true a1_0 a1_1)) = some r := by rw [if_neg (show ¬ (false = true) by decide)] at H; exact H
          clear H
          have H := H1
          clear H1
          have HC23 := Aside0.mk H
          clear H
          go_upto_region 7 with (fail)
          repeat (go_quiet (fail); go_upto_region 7 with (fail))
          go_cut [60] (fun v60 wc => ∃ (kq : Nat) (x60_22 : Bool), v60 = .bool x60_22 ∧ Aside0 (metrolablaw47_GaugeNarrows.j1 kq l0 t350 t354 x60_22 a1_0 a1_1 = some r) ∧ Aside0 (kq ≤ kj6) ∧ Aside0 (Kd.R k104 104 wc w.heap.size (fun k_ => some k_ ≠ (v355 : Value).ownBlock) v351 t350) ∧ Aside0 (Kd.R k104 104 wc w.heap.size (fun k_ => some k_ ≠ (v351 : Value).ownBlock) v355 t354) ∧ Aside0 (wc.heap[gb347]? = some (.cells #[.int .i64 a1_0, .int .i64 a1_1] 44 (0, 0))) ∧ Aside0 (Below w.heap.size w wc))
          case first =>
            have H := HC23.out
            clear HC23
            by_cases c24 : (t350.length : Int) = (l0.length : Int)
            · rw [if_pos c24] at H
              have c24b0 : ((t350.length : Int) == (l0.length : Int)) = true := beq_iff_eq.mpr c24
              have c24b1 : ((t350.length : Int) != (l0.length : Int)) = false := bne_eq_false_iff_eq.mpr c24
              have c24b2 : (t350.length == l0.length) = true := by first | simpa using c24 | (simp at c24 ⊢; omega)
              clear c24
              (first | rw [c24b0] | (simp only [i64_w, i32_w]; rw [c24b0]) | skip)
              have H' := Aside0.mk H
              clear H
              obtain ⟨Ao25, co25, eo25⟩ := Kd.R_slice HO_5.out
              subst eo25
              obtain ⟨Ao26, co26, eo26⟩ := Kd.R_slice HO_7.out
              subst eo26
              go_wp2
              repeat (go_quiet (fail); try go_wp2)
              go_meet
              case rel => exact ⟨_, (((t354.length : Int) != (l0.length : Int))), (by first | rfl | (simp; done) | (simp [*]; done)), H', ⟨by have := HJ6.out; first | omega | exact Nat.le_refl _⟩, ⟨by (with_reducible repeat (first | apply Kd.R_alloc | apply Kd.R_drewN | apply Kd.R_drew)); exact HO_5.out⟩, ⟨by (with_reducible repeat (first | apply Kd.R_alloc | apply Kd.R_drewN | apply Kd.R_drew)); exact HO_7.out⟩, ⟨by (with_reducible repeat (first | refine blk_drewN ?_ _ | refine blk_drew ?_ | refine blk_alloc ?_ _)); exact BK347.out⟩, ⟨by repeat (first | (with_reducible first | exact HB.out | apply below_alloc | apply pw_below_drewN | apply below_drew1 | refine below_set ?_ GE347.out) | exact HB.out)⟩⟩
            · rw [if_neg c24] at H
              have c24b0 : ((t350.length : Int) == (l0.length : Int)) = false := beq_eq_false_iff_ne.mpr c24
              have c24b1 : ((t350.length : Int) != (l0.length : Int)) = true := bne_iff_ne.mpr c24
              have c24b2 : (t350.length == l0.length) = false := by first | simpa using c24 | (simp at c24 ⊢; omega)
              (first | rw [c24b0] | (simp only [i64_w, i32_w]; rw [c24b0]) | skip)
              have H' := Aside0.mk H
              clear H
              obtain ⟨Ao27, co27, eo27⟩ := Kd.R_slice HO_5.out
              subst eo27
              go_wp2
              repeat (go_quiet (fail); try go_wp2)
              go_meet
              case rel => exact ⟨_, (true), (by first | rfl | (simp; done) | (simp [*]; done)), H', ⟨by have := HJ6.out; first | omega | exact Nat.le_refl _⟩, ⟨by (with_reducible repeat (first | apply Kd.R_alloc | apply Kd.R_drewN | apply Kd.R_drew)); exact HO_5.out⟩, ⟨by (with_reducible repeat (first | apply Kd.R_alloc | apply Kd.R_drewN | apply Kd.R_drew)); exact HO_7.out⟩, ⟨by (with_reducible repeat (first | refine blk_drewN ?_ _ | refine blk_drew ?_ | refine blk_alloc ?_ _)); exact BK347.out⟩, ⟨by repeat (first | (with_reducible first | exact HB.out | apply below_alloc | apply pw_below_drewN | apply below_drew1 | refine below_set ?_ GE347.out) | exact HB.out)⟩⟩
          case rest =>
            clear HC23
            try clear c1
            try clear c2
            try clear p2
            try clear c4
            try clear c12
            try clear c12b0
            try clear c12b1
            try clear c13
            try clear c14
            try clear c14b0
            try clear c14b1
            try clear c16
            try clear c17
            try clear c17b0
            try clear c17b1
            try clear c20
            try clear c20b0
            try clear c20b1
            try clear c24
            try clear c24b0
            try clear c24b1
            try clear c24b2
            try clear hcz10_0
            try clear hcz10_1
            try clear hfz10_0
            try clear hfz10_1
            try clear p2
            obtain ⟨kq, x60_22, rfl, HA, HJ22, HO_5, HO_7, BK347, HB⟩ := hcut
            cases kq with
            | zero => exact absurd HA.out (by simp [metrolablaw47_GaugeNarrows.j1])
            | succ kj22 =>
              have H := HA.out
              clear HA
              simp only [metrolablaw47_GaugeNarrows.j1] at H
              by_cases c28 : x60_22 = true
              · subst c28
                have H1 : (some false) = some r := by rw [if_pos rfl] at H; exact H
                clear H
                have H := H1
                clear H1
                obtain rfl := Option.some.inj H
                go_wp2
                repeat (go_quiet (fail); try go_wp2)
                go_ret
                exact ⟨by first | rfl | (simp [errW_none, errW_some] <;> rfl) | (simp [*, errW_none, errW_some] <;> rfl), by repeat (first | (with_reducible first | exact HB.out | apply below_alloc | apply pw_below_drewN | apply below_drew1 | refine below_set ?_ GE347.out) | exact HB.out)⟩
              · replace c28 := Bool.eq_false_iff.mpr c28
                subst c28
                have H1 : (metrolablaw47_GaugeNarrows.l0 kj22 t350 t354 l0 (l0.length : Int) 0 a1_0 a1_1) = some r := by rw [if_neg (show ¬ (false = true) by decide)] at H; exact H
                clear H
                have H := H1
                clear H1
                have H' := Aside0.mk H
                clear H
                go_wp2
                repeat (go_quiet (fail); try go_wp2)
                go_loopg [63] kj22 (fun kq v63 w' => ∃ (x63_3 : Int), v63 = .int .i64 x63_3 ∧ Aside0 (metrolablaw47_GaugeNarrows.l0 kq t350 t354 l0 (l0.length : Int) x63_3 a1_0 a1_1 = some r) ∧ Aside0 (kq ≤ kj22) ∧ Aside0 (Kd.R k104 104 w' w.heap.size (fun k_ => some k_ ≠ (v355 : Value).ownBlock) v351 t350) ∧ Aside0 (Kd.R k104 104 w' w.heap.size (fun k_ => some k_ ≠ (v351 : Value).ownBlock) v355 t354) ∧ Aside0 (w'.heap[gb347]? = some (.cells #[.int .i64 a1_0, .int .i64 a1_1] 44 (0, 0))) ∧ Aside0 (Below w.heap.size w w'))
                case atStart => exact ⟨(0), (by first | rfl | (simp; done) | (simp [*]; done)), H', ⟨Nat.le_refl _⟩, ⟨by (with_reducible repeat (first | apply Kd.R_alloc | apply Kd.R_drewN | apply Kd.R_drew)); exact HO_5.out⟩, ⟨by (with_reducible repeat (first | apply Kd.R_alloc | apply Kd.R_drewN | apply Kd.R_drew)); exact HO_7.out⟩, ⟨by (with_reducible repeat (first | refine blk_drewN ?_ _ | refine blk_drew ?_ | refine blk_alloc ?_ _)); exact BK347.out⟩, ⟨by repeat (first | (with_reducible first | exact HB.out | apply below_alloc | apply pw_below_drewN | apply below_drew1 | refine below_set ?_ GE347.out) | exact HB.out)⟩⟩
                case round =>
                  clear H'
                  try clear c1
                  try clear c2
                  try clear p2
                  try clear c4
                  try clear c12
                  try clear c12b0
                  try clear c12b1
                  try clear c13
                  try clear c14
                  try clear c14b0
                  try clear c14b1
                  try clear c16
                  try clear c17
                  try clear c17b0
                  try clear c17b1
                  try clear c20
                  try clear c20b0
                  try clear c20b1
                  try clear c24
                  try clear c24b0
                  try clear c24b1
                  try clear c24b2
                  try clear c28
                  try clear hcz10_0
                  try clear hcz10_1
                  try clear hfz10_0
                  try clear hfz10_1
                  try clear p2
                  obtain ⟨x63_3, rfl, HA, HK3, HO_5, HO_7, BK347, HB⟩ := hrel
                  cases gk with
                  | zero => exact absurd HA.out (by simp [metrolablaw47_GaugeNarrows.l0])
                  | succ k3 =>
                    have H := HA.out
                    clear HA
                    simp only [metrolablaw47_GaugeNarrows.l0] at H
                    by_cases c29 : x63_3 < (l0.length : Int)
                    · rw [if_pos c29] at H
                      have c29b0 : decide (x63_3 < (l0.length : Int)) = true := decide_eq_true c29
                      clear c29
                      by_cases c30 : 0 ≤ x63_3
                      · rw [if_pos c30] at H
                        have c30b0 : decide (0 ≤ x63_3) = true := decide_eq_true c30
                        clear c30
                        by_cases c31 : x63_3 < (l0.length : Int)
                        · rw [if_pos c31] at H
                          have c31b0 : decide (x63_3 < (l0.length : Int)) = true := decide_eq_true c31
                          clear c31
                          replace H := Option.bind_eq_some_iff.mp H
                          obtain ⟨⟨t364, t365⟩, A320, H⟩ := H
                          replace H : (if t365 = 0 then (if x63_3 < (t350.length : Int) then (if (!(((rd_T104 t350 x63_3).f2.f0) == t364) || (!(((rd_T104 t350 x63_3).f2.f1) == t364))) = true then (metrolablaw47_GaugeNarrows.j3 k3 t350 t354 x63_3 t364 l0 (l0.length : Int) x63_3 true a1_0 a1_1 ((rd_T27 l0 x63_3).f0.f0) ((rd_T27 l0 x63_3).f0.f1) ((rd_T27 l0 x63_3).f1.f0) ((rd_T27 l0 x63_3).f1.f1) ((rd_T27 l0 x63_3).f2) ((rd_T27 l0 x63_3).f3) ((rd_T27 l0 x63_3).f4)) else (if (!(((rd_T104 t350 x63_3).f0.f0) == ((rd_T27 l0 x63_3).f0.f0)) || (!(((rd_T104 t350 x63_3).f0.f1) == ((rd_T27 l0 x63_3).f0.f1)))) = true then (metrolablaw47_GaugeNarrows.j3 k3 t350 t354 x63_3 t364 l0 (l0.length : Int) x63_3 true a1_0 a1_1 ((rd_T27 l0 x63_3).f0.f0) ((rd_T27 l0 x63_3).f0.f1) ((rd_T27 l0 x63_3).f1.f0) ((rd_T27 l0 x63_3).f1.f1) ((rd_T27 l0 x63_3).f2) ((rd_T27 l0 x63_3).f3) ((rd_T27 l0 x63_3).f4)) else (metrolablaw47_GaugeNarrows.j3 k3 t350 t354 x63_3 t364 l0 (l0.length : Int) x63_3 (((rd_T104 t350 x63_3).f1) != ((rd_T27 l0 x63_3).f4)) a1_0 a1_1 ((rd_T27 l0 x63_3).f0.f0) ((rd_T27 l0 x63_3).f0.f1) ((rd_T27 l0 x63_3).f1.f0) ((rd_T27 l0 x63_3).f1.f1) ((rd_T27 l0 x63_3).f2) ((rd_T27 l0 x63_3).f3) ((rd_T27 l0 x63_3).f4)))) else (none)) else (metrolablaw47_GaugeNarrows.j3 k3 t350 t354 x63_3 t364 l0 (l0.length : Int) x63_3 true a1_0 a1_1 ((rd_T27 l0 x63_3).f0.f0) ((rd_T27 l0 x63_3).f0.f1) ((rd_T27 l0 x63_3).f1.f0) ((rd_T27 l0 x63_3).f1.f1) ((rd_T27 l0 x63_3).f2) ((rd_T27 l0 x63_3).f3) ((rd_T27 l0 x63_3).f4))) = some r := H
                          have A32 := Aside0.mk A320
                          clear A320
                          have HC33 := Aside0.mk H
                          clear H
                          have p362 : 0 ≤ (x63_3 : Int) := of_decide_eq_true (by first | (with_reducible assumption) | assumption)
                          have q362 : x63_3 < (l0.length : Int) := of_decide_eq_true (by first | (with_reducible assumption) | assumption)
                          obtain ⟨ad362, e362, hx362_0, hx362_1, hx362_2, hx362_3, hx362_4, hx362_5, hx362_6⟩ := at_T27 HR0.out x63_3 p362 q362
                          cases e362
                          replace hx362_0 := (HB.out.cell (World.block_lt_of_cell? w _ hx362_0)).trans hx362_0
                          replace hx362_1 := (HB.out.cell (World.block_lt_of_cell? w _ hx362_1)).trans hx362_1
                          replace hx362_2 := (HB.out.cell (World.block_lt_of_cell? w _ hx362_2)).trans hx362_2
                          replace hx362_3 := (HB.out.cell (World.block_lt_of_cell? w _ hx362_3)).trans hx362_3
                          replace hx362_4 := (HB.out.cell (World.block_lt_of_cell? w _ hx362_4)).trans hx362_4
                          replace hx362_5 := (HB.out.cell (World.block_lt_of_cell? w _ hx362_5)).trans hx362_5
                          replace hx362_6 := (HB.out.cell (World.block_lt_of_cell? w _ hx362_6)).trans hx362_6
                          replace p362 := eq_true p362
                          replace q362 := eq_true q362
                          go_upto_region 13 with (first | ((with_reducible refine gate_dst (N := 10) rfl ?_); (try (refine gate_guard (by rfl) ?_; dsimp only)); refine box_event ?hg (N := 10) ?hd (cs := #[.int .i64 0, .int .i64 0, .int .i64 0, .int .i64 0, .int .i64 0, .int .i64 0, .bool false]) (t := 27) ?hr ?_; (case hd => rfl); (case hg => rfl); (case hr => first | (go_simp; done) | (go_simp; rfl)); intro gb363 hg w34 hbox hb; have n0_ := Aside0.mk (Kd.R_below (by (with_reducible repeat (first | apply Kd.R_alloc | apply Kd.R_drewN | apply Kd.R_drew)); exact HO_5.out) hb); have n1_ := Aside0.mk (Kd.R_below (by (with_reducible repeat (first | apply Kd.R_alloc | apply Kd.R_drewN | apply Kd.R_drew)); exact HO_7.out) hb); have n2_ := Aside0.mk (blk_below (g := gb347) (o := .cells #[.int .i64 a1_0, .int .i64 a1_1] 44 (0, 0)) (by (with_reducible repeat (first | refine blk_drewN ?_ _ | refine blk_drew ?_ | refine blk_alloc ?_ _)); exact BK347.out) hb); have n3_ := Aside0.mk (below_step (by repeat (first | (with_reducible first | exact HB.out | apply below_alloc | apply pw_below_drewN | apply below_drew1 | refine below_set ?_ GE347.out) | exact HB.out)) hb); have n4_ := Aside0.mk (hbox); have n5_ := Aside0.mk ((by rw [hg]; exact (below_size (by repeat (first | (with_reducible first | exact HB.out | apply below_alloc | apply pw_below_drewN | apply below_drew1 | refine below_set ?_ GE347.out) | exact HB.out))) : w.heap.size ≤ gb363)); have n6_ := Aside0.mk ((by rw [hg]; exact (below_size (by repeat (first | (with_reducible first | exact HB.out | apply below_alloc | apply pw_below_drewN | apply below_drew1 | refine below_set ?_ GE347.out) | exact HB.out))) : w.heap.size ≤ gb363)); have n7_ := Aside0.mk ((by rw [hg]; exact Nat.ne_of_lt (blk_lt (g := gb347) (o := .cells #[.int .i64 a1_0, .int .i64 a1_1] 44 (0, 0)) (by (with_reducible repeat (first | refine blk_drewN ?_ _ | refine blk_drew ?_ | refine blk_alloc ?_ _)); exact BK347.out)) : gb347 ≠ gb363)); have n8_ := Aside0.mk ((by rw [hg]; exact Nat.ne_of_gt (blk_lt (g := gb347) (o := .cells #[.int .i64 a1_0, .int .i64 a1_1] 44 (0, 0)) (by (with_reducible repeat (first | refine blk_drewN ?_ _ | refine blk_drew ?_ | refine blk_alloc ?_ _)); exact BK347.out)) : gb363 ≠ gb347)); clear HO_5; clear HO_7; clear BK347; clear HB; have HO_5 := n0_; have HO_7 := n1_; have BK347 := n2_; have HB := n3_; have BK363 := n4_; have GW363 := n5_; have GE363 := n6_; have NB347_363 := n7_; have NB363_347 := n8_; clear n0_ n1_ n2_ n3_ n4_ n5_ n6_ n7_ n8_; clear hb hbox hg; have hnb35 := NB363_347.out; have hnc35 := NB347_363.out; have hcz36_0 : w34.cell? ⟨gb363, 0, none⟩ = some (.int .i64 0) := (blk_cell BK363.out 0).trans rfl; have hcz36_1 : w34.cell? ⟨gb363, 1, none⟩ = some (.int .i64 0) := (blk_cell BK363.out 1).trans rfl; have hcz36_2 : w34.cell? ⟨gb363, 2, none⟩ = some (.int .i64 0) := (blk_cell BK363.out 2).trans rfl; have hcz36_3 : w34.cell? ⟨gb363, 3, none⟩ = some (.int .i64 0) := (blk_cell BK363.out 3).trans rfl; have hcz36_4 : w34.cell? ⟨gb363, 4, none⟩ = some (.int .i64 0) := (blk_cell BK363.out 4).trans rfl; have hcz36_5 : w34.cell? ⟨gb363, 5, none⟩ = some (.int .i64 0) := (blk_cell BK363.out 5).trans rfl; have hcz36_6 : w34.cell? ⟨gb363, 6, none⟩ = some (.bool false) := (blk_cell BK363.out 6).trans rfl; have hfz36_0 := blk_frozen BK363.out 0; have hfz36_1 := blk_frozen BK363.out 1; have hfz36_2 := blk_frozen BK363.out 2; have hfz36_3 := blk_frozen BK363.out 3; have hfz36_4 := blk_frozen BK363.out 4; have hfz36_5 := blk_frozen BK363.out 5; have hfz36_6 := blk_frozen BK363.out 6) | (go_at_call 18; (with_reducible refine (bonus_Virtual.calls k3 ((rd_T27 l0 x63_3).f0.f0) ((rd_T27 l0 x63_3).f0.f1) ((rd_T27 l0 x63_3).f1.f0) ((rd_T27 l0 x63_3).f1.f1) ((rd_T27 l0 x63_3).f2) ((rd_T27 l0 x63_3).f3) ((rd_T27 l0 x63_3).f4) t364 t365 _ A32.out (by exact sig_below HS.out (by repeat (first | (with_reducible first | exact HB.out | apply below_alloc | apply pw_below_drewN | apply below_drew1 | refine below_set ?_ GE347.out | refine below_set ?_ GE363.out) | exact HB.out)))).mono ?_); rintro e w37 ⟨rfl, hb⟩; have n0_ := Aside0.mk (Kd.R_below (by (with_reducible repeat (first | apply Kd.R_alloc | apply Kd.R_drewN | apply Kd.R_drew)); exact (Kd.R_mono (Kd.R_far (p := ⟨gb363, 6, none⟩) (Kd.R_far (p := ⟨gb363, 5, none⟩) (Kd.R_far (p := ⟨gb363, 4, none⟩) (Kd.R_far (p := ⟨gb363, 3, none⟩) (Kd.R_far (p := ⟨gb363, 2, none⟩) (Kd.R_far (p := ⟨gb363, 1, none⟩) (Kd.R_far (p := ⟨gb363, 0, none⟩) (Kd.R_types HO_5.out BK363.out (by decide)) (fun _ hk => hk.2) (.int .i64 ((rd_T27 l0 x63_3).f0.f0))) (fun _ hk => hk.2) (.int .i64 ((rd_T27 l0 x63_3).f0.f1))) (fun _ hk => hk.2) (.int .i64 ((rd_T27 l0 x63_3).f1.f0))) (fun _ hk => hk.2) (.int .i64 ((rd_T27 l0 x63_3).f1.f1))) (fun _ hk => hk.2) (.int .i64 ((rd_T27 l0 x63_3).f2))) (fun _ hk => hk.2) (.int .i64 ((rd_T27 l0 x63_3).f3))) (fun _ hk => hk.2) (.bool ((rd_T27 l0 x63_3).f4))) (fun _ h_ => h_.1))) hb); have n1_ := Aside0.mk (Kd.R_below (by (with_reducible repeat (first | apply Kd.R_alloc | apply Kd.R_drewN | apply Kd.R_drew)); exact (Kd.R_mono (Kd.R_far (p := ⟨gb363, 6, none⟩) (Kd.R_far (p := ⟨gb363, 5, none⟩) (Kd.R_far (p := ⟨gb363, 4, none⟩) (Kd.R_far (p := ⟨gb363, 3, none⟩) (Kd.R_far (p := ⟨gb363, 2, none⟩) (Kd.R_far (p := ⟨gb363, 1, none⟩) (Kd.R_far (p := ⟨gb363, 0, none⟩) (Kd.R_types HO_7.out BK363.out (by decide)) (fun _ hk => hk.2) (.int .i64 ((rd_T27 l0 x63_3).f0.f0))) (fun _ hk => hk.2) (.int .i64 ((rd_T27 l0 x63_3).f0.f1))) (fun _ hk => hk.2) (.int .i64 ((rd_T27 l0 x63_3).f1.f0))) (fun _ hk => hk.2) (.int .i64 ((rd_T27 l0 x63_3).f1.f1))) (fun _ hk => hk.2) (.int .i64 ((rd_T27 l0 x63_3).f2))) (fun _ hk => hk.2) (.int .i64 ((rd_T27 l0 x63_3).f3))) (fun _ hk => hk.2) (.bool ((rd_T27 l0 x63_3).f4))) (fun _ h_ => h_.1))) hb); have n2_ := Aside0.mk (blk_below (g := gb347) (o := .cells #[.int .i64 a1_0, .int .i64 a1_1] 44 (0, 0)) (by (with_reducible repeat (first | refine blk_drewN ?_ _ | refine blk_drew ?_ | refine blk_alloc ?_ _)); refine blk_far ?_ NB347_363.out _; (with_reducible repeat (first | refine blk_drewN ?_ _ | refine blk_drew ?_ | refine blk_alloc ?_ _)); refine blk_far ?_ NB347_363.out _; (with_reducible repeat (first | refine blk_drewN ?_ _ | refine blk_drew ?_ | refine blk_alloc ?_ _)); refine blk_far ?_ NB347_363.out _; (with_reducible repeat (first | refine blk_drewN ?_ _ | refine blk_drew ?_ | refine blk_alloc ?_ _)); refine blk_far ?_ NB347_363.out _; (with_reducible repeat (first | refine blk_drewN ?_ _ | refine blk_drew ?_ | refine blk_alloc ?_ _)); refine blk_far ?_ NB347_363.out _; (with_reducible repeat (first | refine blk_drewN ?_ _ | refine blk_drew ?_ | refine blk_alloc ?_ _)); refine blk_far ?_ NB347_363.out _; (with_reducible repeat (first | refine blk_drewN ?_ _ | refine blk_drew ?_ | refine blk_alloc ?_ _)); refine blk_far ?_ NB347_363.out _; (with_reducible repeat (first | refine blk_drewN ?_ _ | refine blk_drew ?_ | refine blk_alloc ?_ _)); exact BK347.out) hb); have n3_ := Aside0.mk (blk_below (g := gb363) (o := .cells #[.int .i64 ((rd_T27 l0 x63_3).f0.f0), .int .i64 ((rd_T27 l0 x63_3).f0.f1), .int .i64 ((rd_T27 l0 x63_3).f1.f0), .int .i64 ((rd_T27 l0 x63_3).f1.f1), .int .i64 ((rd_T27 l0 x63_3).f2), .int .i64 ((rd_T27 l0 x63_3).f3), .bool ((rd_T27 l0 x63_3).f4)] 27 (0, 0)) (by (with_reducible repeat (first | refine blk_drewN ?_ _ | refine blk_drew ?_ | refine blk_alloc ?_ _)); refine blk_put (cs := #[.int .i64 ((rd_T27 l0 x63_3).f0.f0), .int .i64 ((rd_T27 l0 x63_3).f0.f1), .int .i64 ((rd_T27 l0 x63_3).f1.f0), .int .i64 ((rd_T27 l0 x63_3).f1.f1), .int .i64 ((rd_T27 l0 x63_3).f2), .int .i64 ((rd_T27 l0 x63_3).f3), .bool false]) ?_ 6 _ rfl; (with_reducible repeat (first | refine blk_drewN ?_ _ | refine blk_drew ?_ | refine blk_alloc ?_ _)); refine blk_put (cs := #[.int .i64 ((rd_T27 l0 x63_3).f0.f0), .int .i64 ((rd_T27 l0 x63_3).f0.f1), .int .i64 ((rd_T27 l0 x63_3).f1.f0), .int .i64 ((rd_T27 l0 x63_3).f1.f1), .int .i64 ((rd_T27 l0 x63_3).f2), .int .i64 0, .bool false]) ?_ 5 _ rfl; (with_reducible repeat (first | refine blk_drewN ?_ _ | refine blk_drew ?_ | refine blk_alloc ?_ _)); refine blk_put (cs := #[.int .i64 ((rd_T27 l0 x63_3).f0.f0), .int .i64 ((rd_T27 l0 x63_3).f0.f1), .int .i64 ((rd_T27 l0 x63_3).f1.f0), .int .i64 ((rd_T27 l0 x63_3).f1.f1), .int .i64 0, .int .i64 0, .bool false]) ?_ 4 _ rfl; (with_reducible repeat (first | refine blk_drewN ?_ _ | refine blk_drew ?_ | refine blk_alloc ?_ _)); refine blk_put (cs := #[.int .i64 ((rd_T27 l0 x63_3).f0.f0), .int .i64 ((rd_T27 l0 x63_3).f0.f1), .int .i64 ((rd_T27 l0 x63_3).f1.f0), .int .i64 0, .int .i64 0, .int .i64 0, .bool false]) ?_ 3 _ rfl; (with_reducible repeat (first | refine blk_drewN ?_ _ | refine blk_drew ?_ | refine blk_alloc ?_ _)); refine blk_put (cs := #[.int .i64 ((rd_T27 l0 x63_3).f0.f0), .int .i64 ((rd_T27 l0 x63_3).f0.f1), .int .i64 0, .int .i64 0, .int .i64 0, .int .i64 0, .bool false]) ?_ 2 _ rfl; (with_reducible repeat (first | refine blk_drewN ?_ _ | refine blk_drew ?_ | refine blk_alloc ?_ _)); refine blk_put (cs := #[.int .i64 ((rd_T27 l0 x63_3).f0.f0), .int .i64 0, .int .i64 0, .int .i64 0, .int .i64 0, .int .i64 0, .bool false]) ?_ 1 _ rfl; (with_reducible repeat (first | refine blk_drewN ?_ _ | refine blk_drew ?_ | refine blk_alloc ?_ _)); refine blk_put (cs := #[.int .i64 0, .int .i64 0, .int .i64 0, .int .i64 0, .int .i64 0, .int .i64 0, .bool false]) ?_ 0 _ rfl; (with_reducible repeat (first | refine blk_drewN ?_ _ | refine blk_drew ?_ | refine blk_alloc ?_ _)); exact BK363.out) hb); have n4_ := Aside0.mk (below_step (by repeat (first | (with_reducible first | exact HB.out | apply below_alloc | apply pw_below_drewN | apply below_drew1 | refine below_set ?_ GE347.out | refine below_set ?_ GE363.out) | exact HB.out)) hb); clear HO_5; clear HO_7; clear BK347; clear BK363; clear HB; have HO_5 := n0_; have HO_7 := n1_; have BK347 := n2_; have BK363 := n3_; have HB := n4_; clear n0_ n1_ n2_ n3_ n4_; (try clear hb); (try clear hb2); (try clear hk); (try clear hi)))
                          repeat (go_quiet (first | ((with_reducible refine gate_dst (N := 10) rfl ?_); (try (refine gate_guard (by rfl) ?_; dsimp only)); refine box_event ?hg (N := 10) ?hd (cs := #[.int .i64 0, .int .i64 0, .int .i64 0, .int .i64 0, .int .i64 0, .int .i64 0, .bool false]) (t := 27) ?hr ?_; (case hd => rfl); (case hg => rfl); (case hr => first | (go_simp; done) | (go_simp; rfl)); intro gb363 hg w34 hbox hb; have n0_ := Aside0.mk (Kd.R_below (by (with_reducible repeat (first | apply Kd.R_alloc | apply Kd.R_drewN | apply Kd.R_drew)); exact HO_5.out) hb); have n1_ := Aside0.mk (Kd.R_below (by (with_reducible repeat (first | apply Kd.R_alloc | apply Kd.R_drewN | apply Kd.R_drew)); exact HO_7.out) hb); have n2_ := Aside0.mk (blk_below (g := gb347) (o := .cells #[.int .i64 a1_0, .int .i64 a1_1] 44 (0, 0)) (by (with_reducible repeat (first | refine blk_drewN ?_ _ | refine blk_drew ?_ | refine blk_alloc ?_ _)); exact BK347.out) hb); have n3_ := Aside0.mk (below_step (by repeat (first | (with_reducible first | exact HB.out | apply below_alloc | apply pw_below_drewN | apply below_drew1 | refine below_set ?_ GE347.out) | exact HB.out)) hb); have n4_ := Aside0.mk (hbox); have n5_ := Aside0.mk ((by rw [hg]; exact (below_size (by repeat (first | (with_reducible first | exact HB.out | apply below_alloc | apply pw_below_drewN | apply below_drew1 | refine below_set ?_ GE347.out) | exact HB.out))) : w.heap.size ≤ gb363)); have n6_ := Aside0.mk ((by rw [hg]; exact (below_size (by repeat (first | (with_reducible first | exact HB.out | apply below_alloc | apply pw_below_drewN | apply below_drew1 | refine below_set ?_ GE347.out) | exact HB.out))) : w.heap.size ≤ gb363)); have n7_ := Aside0.mk ((by rw [hg]; exact Nat.ne_of_lt (blk_lt (g := gb347) (o := .cells #[.int .i64 a1_0, .int .i64 a1_1] 44 (0, 0)) (by (with_reducible repeat (first | refine blk_drewN ?_ _ | refine blk_drew ?_ | refine blk_alloc ?_ _)); exact BK347.out)) : gb347 ≠ gb363)); have n8_ := Aside0.mk ((by rw [hg]; exact Nat.ne_of_gt (blk_lt (g := gb347) (o := .cells #[.int .i64 a1_0, .int .i64 a1_1] 44 (0, 0)) (by (with_reducible repeat (first | refine blk_drewN ?_ _ | refine blk_drew ?_ | refine blk_alloc ?_ _)); exact BK347.out)) : gb363 ≠ gb347)); clear HO_5; clear HO_7; clear BK347; clear HB; have HO_5 := n0_; have HO_7 := n1_; have BK347 := n2_; have HB := n3_; have BK363 := n4_; have GW363 := n5_; have GE363 := n6_; have NB347_363 := n7_; have NB363_347 := n8_; clear n0_ n1_ n2_ n3_ n4_ n5_ n6_ n7_ n8_; clear hb hbox hg; have hnb35 := NB363_347.out; have hnc35 := NB347_363.out; have hcz36_0 : w34.cell? ⟨gb363, 0, none⟩ = some (.int .i64 0) := (blk_cell BK363.out 0).trans rfl; have hcz36_1 : w34.cell? ⟨gb363, 1, none⟩ = some (.int .i64 0) := (blk_cell BK363.out 1).trans rfl; have hcz36_2 : w34.cell? ⟨gb363, 2, none⟩ = some (.int .i64 0) := (blk_cell BK363.out 2).trans rfl; have hcz36_3 : w34.cell? ⟨gb363, 3, none⟩ = some (.int .i64 0) := (blk_cell BK363.out 3).trans rfl; have hcz36_4 : w34.cell? ⟨gb363, 4, none⟩ = some (.int .i64 0) := (blk_cell BK363.out 4).trans rfl; have hcz36_5 : w34.cell? ⟨gb363, 5, none⟩ = some (.int .i64 0) := (blk_cell BK363.out 5).trans rfl; have hcz36_6 : w34.cell? ⟨gb363, 6, none⟩ = some (.bool false) := (blk_cell BK363.out 6).trans rfl; have hfz36_0 := blk_frozen BK363.out 0; have hfz36_1 := blk_frozen BK363.out 1; have hfz36_2 := blk_frozen BK363.out 2; have hfz36_3 := blk_frozen BK363.out 3; have hfz36_4 := blk_frozen BK363.out 4; have hfz36_5 := blk_frozen BK363.out 5; have hfz36_6 := blk_frozen BK363.out 6) | (go_at_call 18; (with_reducible refine (bonus_Virtual.calls k3 ((rd_T27 l0 x63_3).f0.f0) ((rd_T27 l0 x63_3).f0.f1) ((rd_T27 l0 x63_3).f1.f0) ((rd_T27 l0 x63_3).f1.f1) ((rd_T27 l0 x63_3).f2) ((rd_T27 l0 x63_3).f3) ((rd_T27 l0 x63_3).f4) t364 t365 _ A32.out (by exact sig_below HS.out (by repeat (first | (with_reducible first | exact HB.out | apply below_alloc | apply pw_below_drewN | apply below_drew1 | refine below_set ?_ GE347.out | refine below_set ?_ GE363.out) | exact HB.out)))).mono ?_); rintro e w37 ⟨rfl, hb⟩; have n0_ := Aside0.mk (Kd.R_below (by (with_reducible repeat (first | apply Kd.R_alloc | apply Kd.R_drewN | apply Kd.R_drew)); exact (Kd.R_mono (Kd.R_far (p := ⟨gb363, 6, none⟩) (Kd.R_far (p := ⟨gb363, 5, none⟩) (Kd.R_far (p := ⟨gb363, 4, none⟩) (Kd.R_far (p := ⟨gb363, 3, none⟩) (Kd.R_far (p := ⟨gb363, 2, none⟩) (Kd.R_far (p := ⟨gb363, 1, none⟩) (Kd.R_far (p := ⟨gb363, 0, none⟩) (Kd.R_types HO_5.out BK363.out (by decide)) (fun _ hk => hk.2) (.int .i64 ((rd_T27 l0 x63_3).f0.f0))) (fun _ hk => hk.2) (.int .i64 ((rd_T27 l0 x63_3).f0.f1))) (fun _ hk => hk.2) (.int .i64 ((rd_T27 l0 x63_3).f1.f0))) (fun _ hk => hk.2) (.int .i64 ((rd_T27 l0 x63_3).f1.f1))) (fun _ hk => hk.2) (.int .i64 ((rd_T27 l0 x63_3).f2))) (fun _ hk => hk.2) (.int .i64 ((rd_T27 l0 x63_3).f3))) (fun _ hk => hk.2) (.bool ((rd_T27 l0 x63_3).f4))) (fun _ h_ => h_.1))) hb); have n1_ := Aside0.mk (Kd.R_below (by (with_reducible repeat (first | apply Kd.R_alloc | apply Kd.R_drewN | apply Kd.R_drew)); exact (Kd.R_mono (Kd.R_far (p := ⟨gb363, 6, none⟩) (Kd.R_far (p := ⟨gb363, 5, none⟩) (Kd.R_far (p := ⟨gb363, 4, none⟩) (Kd.R_far (p := ⟨gb363, 3, none⟩) (Kd.R_far (p := ⟨gb363, 2, none⟩) (Kd.R_far (p := ⟨gb363, 1, none⟩) (Kd.R_far (p := ⟨gb363, 0, none⟩) (Kd.R_types HO_7.out BK363.out (by decide)) (fun _ hk => hk.2) (.int .i64 ((rd_T27 l0 x63_3).f0.f0))) (fun _ hk => hk.2) (.int .i64 ((rd_T27 l0 x63_3).f0.f1))) (fun _ hk => hk.2) (.int .i64 ((rd_T27 l0 x63_3).f1.f0))) (fun _ hk => hk.2) (.int .i64 ((rd_T27 l0 x63_3).f1.f1))) (fun _ hk => hk.2) (.int .i64 ((rd_T27 l0 x63_3).f2))) (fun _ hk => hk.2) (.int .i64 ((rd_T27 l0 x63_3).f3))) (fun _ hk => hk.2) (.bool ((rd_T27 l0 x63_3).f4))) (fun _ h_ => h_.1))) hb); have n2_ := Aside0.mk (blk_below (g := gb347) (o := .cells #[.int .i64 a1_0, .int .i64 a1_1] 44 (0, 0)) (by (with_reducible repeat (first | refine blk_drewN ?_ _ | refine blk_drew ?_ | refine blk_alloc ?_ _)); refine blk_far ?_ NB347_363.out _; (with_reducible repeat (first | refine blk_drewN ?_ _ | refine blk_drew ?_ | refine blk_alloc ?_ _)); refine blk_far ?_ NB347_363.out _; (with_reducible repeat (first | refine blk_drewN ?_ _ | refine blk_drew ?_ | refine blk_alloc ?_ _)); refine blk_far ?_ NB347_363.out _; (with_reducible repeat (first | refine blk_drewN ?_ _ | refine blk_drew ?_ | refine blk_alloc ?_ _)); refine blk_far ?_ NB347_363.out _; (with_reducible repeat (first | refine blk_drewN ?_ _ | refine blk_drew ?_ | refine blk_alloc ?_ _)); refine blk_far ?_ NB347_363.out _; (with_reducible repeat (first | refine blk_drewN ?_ _ | refine blk_drew ?_ | refine blk_alloc ?_ _)); refine blk_far ?_ NB347_363.out _; (with_reducible repeat (first | refine blk_drewN ?_ _ | refine blk_drew ?_ | refine blk_alloc ?_ _)); refine blk_far ?_ NB347_363.out _; (with_reducible repeat (first | refine blk_drewN ?_ _ | refine blk_drew ?_ | refine blk_alloc ?_ _)); exact BK347.out) hb); have n3_ := Aside0.mk (blk_below (g := gb363) (o := .cells #[.int .i64 ((rd_T27 l0 x63_3).f0.f0), .int .i64 ((rd_T27 l0 x63_3).f0.f1), .int .i64 ((rd_T27 l0 x63_3).f1.f0), .int .i64 ((rd_T27 l0 x63_3).f1.f1), .int .i64 ((rd_T27 l0 x63_3).f2), .int .i64 ((rd_T27 l0 x63_3).f3), .bool ((rd_T27 l0 x63_3).f4)] 27 (0, 0)) (by (with_reducible repeat (first | refine blk_drewN ?_ _ | refine blk_drew ?_ | refine blk_alloc ?_ _)); refine blk_put (cs := #[.int .i64 ((rd_T27 l0 x63_3).f0.f0), .int .i64 ((rd_T27 l0 x63_3).f0.f1), .int .i64 ((rd_T27 l0 x63_3).f1.f0), .int .i64 ((rd_T27 l0 x63_3).f1.f1), .int .i64 ((rd_T27 l0 x63_3).f2), .int .i64 ((rd_T27 l0 x63_3).f3), .bool false]) ?_ 6 _ rfl; (with_reducible repeat (first | refine blk_drewN ?_ _ | refine blk_drew ?_ | refine blk_alloc ?_ _)); refine blk_put (cs := #[.int .i64 ((rd_T27 l0 x63_3).f0.f0), .int .i64 ((rd_T27 l0 x63_3).f0.f1), .int .i64 ((rd_T27 l0 x63_3).f1.f0), .int .i64 ((rd_T27 l0 x63_3).f1.f1), .int .i64 ((rd_T27 l0 x63_3).f2), .int .i64 0, .bool false]) ?_ 5 _ rfl; (with_reducible repeat (first | refine blk_drewN ?_ _ | refine blk_drew ?_ | refine blk_alloc ?_ _)); refine blk_put (cs := #[.int .i64 ((rd_T27 l0 x63_3).f0.f0), .int .i64 ((rd_T27 l0 x63_3).f0.f1), .int .i64 ((rd_T27 l0 x63_3).f1.f0), .int .i64 ((rd_T27 l0 x63_3).f1.f1), .int .i64 0, .int .i64 0, .bool false]) ?_ 4 _ rfl; (with_reducible repeat (first | refine blk_drewN ?_ _ | refine blk_drew ?_ | refine blk_alloc ?_ _)); refine blk_put (cs := #[.int .i64 ((rd_T27 l0 x63_3).f0.f0), .int .i64 ((rd_T27 l0 x63_3).f0.f1), .int .i64 ((rd_T27 l0 x63_3).f1.f0), .int .i64 0, .int .i64 0, .int .i64 0, .bool false]) ?_ 3 _ rfl; (with_reducible repeat (first | refine blk_drewN ?_ _ | refine blk_drew ?_ | refine blk_alloc ?_ _)); refine blk_put (cs := #[.int .i64 ((rd_T27 l0 x63_3).f0.f0), .int .i64 ((rd_T27 l0 x63_3).f0.f1), .int .i64 0, .int .i64 0, .int .i64 0, .int .i64 0, .bool false]) ?_ 2 _ rfl; (with_reducible repeat (first | refine blk_drewN ?_ _ | refine blk_drew ?_ | refine blk_alloc ?_ _)); refine blk_put (cs := #[.int .i64 ((rd_T27 l0 x63_3).f0.f0), .int .i64 0, .int .i64 0, .int .i64 0, .int .i64 0, .int .i64 0, .bool false]) ?_ 1 _ rfl; (with_reducible repeat (first | refine blk_drewN ?_ _ | refine blk_drew ?_ | refine blk_alloc ?_ _)); refine blk_put (cs := #[.int .i64 0, .int .i64 0, .int .i64 0, .int .i64 0, .int .i64 0, .int .i64 0, .bool false]) ?_ 0 _ rfl; (with_reducible repeat (first | refine blk_drewN ?_ _ | refine blk_drew ?_ | refine blk_alloc ?_ _)); exact BK363.out) hb); have n4_ := Aside0.mk (below_step (by repeat (first | (with_reducible first | exact HB.out | apply below_alloc | apply pw_below_drewN | apply below_drew1 | refine below_set ?_ GE347.out | refine below_set ?_ GE363.out) | exact HB.out)) hb); clear HO_5; clear HO_7; clear BK347; clear BK363; clear HB; have HO_5 := n0_; have HO_7 := n1_; have BK347 := n2_; have BK363 := n3_; have HB := n4_; clear n0_ n1_ n2_ n3_ n4_; (try clear hb); (try clear hb2); (try clear hk); (try clear hi))); go_upto_region 13 with (first | ((with_reducible refine gate_dst (N := 10) rfl ?_); (try (refine gate_guard (by rfl) ?_; dsimp only)); refine box_event ?hg (N := 10) ?hd (cs := #[.int .i64 0, .int .i64 0, .int .i64 0, .int .i64 0, .int .i64 0, .int .i64 0, .bool false]) (t := 27) ?hr ?_; (case hd => rfl); (case hg => rfl); (case hr => first | (go_simp; done) | (go_simp; rfl)); intro gb363 hg w34 hbox hb; have n0_ := Aside0.mk (Kd.R_below (by (with_reducible repeat (first | apply Kd.R_alloc | apply Kd.R_drewN | apply Kd.R_drew)); exact HO_5.out) hb); have n1_ := Aside0.mk (Kd.R_below (by (with_reducible repeat (first | apply Kd.R_alloc | apply Kd.R_drewN | apply Kd.R_drew)); exact HO_7.out) hb); have n2_ := Aside0.mk (blk_below (g := gb347) (o := .cells #[.int .i64 a1_0, .int .i64 a1_1] 44 (0, 0)) (by (with_reducible repeat (first | refine blk_drewN ?_ _ | refine blk_drew ?_ | refine blk_alloc ?_ _)); exact BK347.out) hb); have n3_ := Aside0.mk (below_step (by repeat (first | (with_reducible first | exact HB.out | apply below_alloc | apply pw_below_drewN | apply below_drew1 | refine below_set ?_ GE347.out) | exact HB.out)) hb); have n4_ := Aside0.mk (hbox); have n5_ := Aside0.mk ((by rw [hg]; exact (below_size (by repeat (first | (with_reducible first | exact HB.out | apply below_alloc | apply pw_below_drewN | apply below_drew1 | refine below_set ?_ GE347.out) | exact HB.out))) : w.heap.size ≤ gb363)); have n6_ := Aside0.mk ((by rw [hg]; exact (below_size (by repeat (first | (with_reducible first | exact HB.out | apply below_alloc | apply pw_below_drewN | apply below_drew1 | refine below_set ?_ GE347.out) | exact HB.out))) : w.heap.size ≤ gb363)); have n7_ := Aside0.mk ((by rw [hg]; exact Nat.ne_of_lt (blk_lt (g := gb347) (o := .cells #[.int .i64 a1_0, .int .i64 a1_1] 44 (0, 0)) (by (with_reducible repeat (first | refine blk_drewN ?_ _ | refine blk_drew ?_ | refine blk_alloc ?_ _)); exact BK347.out)) : gb347 ≠ gb363)); have n8_ := Aside0.mk ((by rw [hg]; exact Nat.ne_of_gt (blk_lt (g := gb347) (o := .cells #[.int .i64 a1_0, .int .i64 a1_1] 44 (0, 0)) (by (with_reducible repeat (first | refine blk_drewN ?_ _ | refine blk_drew ?_ | refine blk_alloc ?_ _)); exact BK347.out)) : gb363 ≠ gb347)); clear HO_5; clear HO_7; clear BK347; clear HB; have HO_5 := n0_; have HO_7 := n1_; have BK347 := n2_; have HB := n3_; have BK363 := n4_; have GW363 := n5_; have GE363 := n6_; have NB347_363 := n7_; have NB363_347 := n8_; clear n0_ n1_ n2_ n3_ n4_ n5_ n6_ n7_ n8_; clear hb hbox hg; have hnb35 := NB363_347.out; have hnc35 := NB347_363.out; have hcz36_0 : w34.cell? ⟨gb363, 0, none⟩ = some (.int .i64 0) := (blk_cell BK363.out 0).trans rfl; have hcz36_1 : w34.cell? ⟨gb363, 1, none⟩ = some (.int .i64 0) := (blk_cell BK363.out 1).trans rfl; have hcz36_2 : w34.cell? ⟨gb363, 2, none⟩ = some (.int .i64 0) := (blk_cell BK363.out 2).trans rfl; have hcz36_3 : w34.cell? ⟨gb363, 3, none⟩ = some (.int .i64 0) := (blk_cell BK363.out 3).trans rfl; have hcz36_4 : w34.cell? ⟨gb363, 4, none⟩ = some (.int .i64 0) := (blk_cell BK363.out 4).trans rfl; have hcz36_5 : w34.cell? ⟨gb363, 5, none⟩ = some (.int .i64 0) := (blk_cell BK363.out 5).trans rfl; have hcz36_6 : w34.cell? ⟨gb363, 6, none⟩ = some (.bool false) := (blk_cell BK363.out 6).trans rfl; have hfz36_0 := blk_frozen BK363.out 0; have hfz36_1 := blk_frozen BK363.out 1; have hfz36_2 := blk_frozen BK363.out 2; have hfz36_3 := blk_frozen BK363.out 3; have hfz36_4 := blk_frozen BK363.out 4; have hfz36_5 := blk_frozen BK363.out 5; have hfz36_6 := blk_frozen BK363.out 6) | (go_at_call 18; (with_reducible refine (bonus_Virtual.calls k3 ((rd_T27 l0 x63_3).f0.f0) ((rd_T27 l0 x63_3).f0.f1) ((rd_T27 l0 x63_3).f1.f0) ((rd_T27 l0 x63_3).f1.f1) ((rd_T27 l0 x63_3).f2) ((rd_T27 l0 x63_3).f3) ((rd_T27 l0 x63_3).f4) t364 t365 _ A32.out (by exact sig_below HS.out (by repeat (first | (with_reducible first | exact HB.out | apply below_alloc | apply pw_below_drewN | apply below_drew1 | refine below_set ?_ GE347.out | refine below_set ?_ GE363.out) | exact HB.out)))).mono ?_); rintro e w37 ⟨rfl, hb⟩; have n0_ := Aside0.mk (Kd.R_below (by (with_reducible repeat (first | apply Kd.R_alloc | apply Kd.R_drewN | apply Kd.R_drew)); exact (Kd.R_mono (Kd.R_far (p := ⟨gb363, 6, none⟩) (Kd.R_far (p := ⟨gb363, 5, none⟩) (Kd.R_far (p := ⟨gb363, 4, none⟩) (Kd.R_far (p := ⟨gb363, 3, none⟩) (Kd.R_far (p := ⟨gb363, 2, none⟩) (Kd.R_far (p := ⟨gb363, 1, none⟩) (Kd.R_far (p := ⟨gb363, 0, none⟩) (Kd.R_types HO_5.out BK363.out (by decide)) (fun _ hk => hk.2) (.int .i64 ((rd_T27 l0 x63_3).f0.f0))) (fun _ hk => hk.2) (.int .i64 ((rd_T27 l0 x63_3).f0.f1))) (fun _ hk => hk.2) (.int .i64 ((rd_T27 l0 x63_3).f1.f0))) (fun _ hk => hk.2) (.int .i64 ((rd_T27 l0 x63_3).f1.f1))) (fun _ hk => hk.2) (.int .i64 ((rd_T27 l0 x63_3).f2))) (fun _ hk => hk.2) (.int .i64 ((rd_T27 l0 x63_3).f3))) (fun _ hk => hk.2) (.bool ((rd_T27 l0 x63_3).f4))) (fun _ h_ => h_.1))) hb); have n1_ := Aside0.mk (Kd.R_below (by (with_reducible repeat (first | apply Kd.R_alloc | apply Kd.R_drewN | apply Kd.R_drew)); exact (Kd.R_mono (Kd.R_far (p := ⟨gb363, 6, none⟩) (Kd.R_far (p := ⟨gb363, 5, none⟩) (Kd.R_far (p := ⟨gb363, 4, none⟩) (Kd.R_far (p := ⟨gb363, 3, none⟩) (Kd.R_far (p := ⟨gb363, 2, none⟩) (Kd.R_far (p := ⟨gb363, 1, none⟩) (Kd.R_far (p := ⟨gb363, 0, none⟩) (Kd.R_types HO_7.out BK363.out (by decide)) (fun _ hk => hk.2) (.int .i64 ((rd_T27 l0 x63_3).f0.f0))) (fun _ hk => hk.2) (.int .i64 ((rd_T27 l0 x63_3).f0.f1))) (fun _ hk => hk.2) (.int .i64 ((rd_T27 l0 x63_3).f1.f0))) (fun _ hk => hk.2) (.int .i64 ((rd_T27 l0 x63_3).f1.f1))) (fun _ hk => hk.2) (.int .i64 ((rd_T27 l0 x63_3).f2))) (fun _ hk => hk.2) (.int .i64 ((rd_T27 l0 x63_3).f3))) (fun _ hk => hk.2) (.bool ((rd_T27 l0 x63_3).f4))) (fun _ h_ => h_.1))) hb); have n2_ := Aside0.mk (blk_below (g := gb347) (o := .cells #[.int .i64 a1_0, .int .i64 a1_1] 44 (0, 0)) (by (with_reducible repeat (first | refine blk_drewN ?_ _ | refine blk_drew ?_ | refine blk_alloc ?_ _)); refine blk_far ?_ NB347_363.out _; (with_reducible repeat (first | refine blk_drewN ?_ _ | refine blk_drew ?_ | refine blk_alloc ?_ _)); refine blk_far ?_ NB347_363.out _; (with_reducible repeat (first | refine blk_drewN ?_ _ | refine blk_drew ?_ | refine blk_alloc ?_ _)); refine blk_far ?_ NB347_363.out _; (with_reducible repeat (first | refine blk_drewN ?_ _ | refine blk_drew ?_ | refine blk_alloc ?_ _)); refine blk_far ?_ NB347_363.out _; (with_reducible repeat (first | refine blk_drewN ?_ _ | refine blk_drew ?_ | refine blk_alloc ?_ _)); refine blk_far ?_ NB347_363.out _; (with_reducible repeat (first | refine blk_drewN ?_ _ | refine blk_drew ?_ | refine blk_alloc ?_ _)); refine blk_far ?_ NB347_363.out _; (with_reducible repeat (first | refine blk_drewN ?_ _ | refine blk_drew ?_ | refine blk_alloc ?_ _)); refine blk_far ?_ NB347_363.out _; (with_reducible repeat (first | refine blk_drewN ?_ _ | refine blk_drew ?_ | refine blk_alloc ?_ _)); exact BK347.out) hb); have n3_ := Aside0.mk (blk_below (g := gb363) (o := .cells #[.int .i64 ((rd_T27 l0 x63_3).f0.f0), .int .i64 ((rd_T27 l0 x63_3).f0.f1), .int .i64 ((rd_T27 l0 x63_3).f1.f0), .int .i64 ((rd_T27 l0 x63_3).f1.f1), .int .i64 ((rd_T27 l0 x63_3).f2), .int .i64 ((rd_T27 l0 x63_3).f3), .bool ((rd_T27 l0 x63_3).f4)] 27 (0, 0)) (by (with_reducible repeat (first | refine blk_drewN ?_ _ | refine blk_drew ?_ | refine blk_alloc ?_ _)); refine blk_put (cs := #[.int .i64 ((rd_T27 l0 x63_3).f0.f0), .int .i64 ((rd_T27 l0 x63_3).f0.f1), .int .i64 ((rd_T27 l0 x63_3).f1.f0), .int .i64 ((rd_T27 l0 x63_3).f1.f1), .int .i64 ((rd_T27 l0 x63_3).f2), .int .i64 ((rd_T27 l0 x63_3).f3), .bool false]) ?_ 6 _ rfl; (with_reducible repeat (first | refine blk_drewN ?_ _ | refine blk_drew ?_ | refine blk_alloc ?_ _)); refine blk_put (cs := #[.int .i64 ((rd_T27 l0 x63_3).f0.f0), .int .i64 ((rd_T27 l0 x63_3).f0.f1), .int .i64 ((rd_T27 l0 x63_3).f1.f0), .int .i64 ((rd_T27 l0 x63_3).f1.f1), .int .i64 ((rd_T27 l0 x63_3).f2), .int .i64 0, .bool false]) ?_ 5 _ rfl; (with_reducible repeat (first | refine blk_drewN ?_ _ | refine blk_drew ?_ | refine blk_alloc ?_ _)); refine blk_put (cs := #[.int .i64 ((rd_T27 l0 x63_3).f0.f0), .int .i64 ((rd_T27 l0 x63_3).f0.f1), .int .i64 ((rd_T27 l0 x63_3).f1.f0), .int .i64 ((rd_T27 l0 x63_3).f1.f1), .int .i64 0, .int .i64 0, .bool false]) ?_ 4 _ rfl; (with_reducible repeat (first | refine blk_drewN ?_ _ | refine blk_drew ?_ | refine blk_alloc ?_ _)); refine blk_put (cs := #[.int .i64 ((rd_T27 l0 x63_3).f0.f0), .int .i64 ((rd_T27 l0 x63_3).f0.f1), .int .i64 ((rd_T27 l0 x63_3).f1.f0), .int .i64 0, .int .i64 0, .int .i64 0, .bool false]) ?_ 3 _ rfl; (with_reducible repeat (first | refine blk_drewN ?_ _ | refine blk_drew ?_ | refine blk_alloc ?_ _)); refine blk_put (cs := #[.int .i64 ((rd_T27 l0 x63_3).f0.f0), .int .i64 ((rd_T27 l0 x63_3).f0.f1), .int .i64 0, .int .i64 0, .int .i64 0, .int .i64 0, .bool false]) ?_ 2 _ rfl; (with_reducible repeat (first | refine blk_drewN ?_ _ | refine blk_drew ?_ | refine blk_alloc ?_ _)); refine blk_put (cs := #[.int .i64 ((rd_T27 l0 x63_3).f0.f0), .int .i64 0, .int .i64 0, .int .i64 0, .int .i64 0, .int .i64 0, .bool false]) ?_ 1 _ rfl; (with_reducible repeat (first | refine blk_drewN ?_ _ | refine blk_drew ?_ | refine blk_alloc ?_ _)); refine blk_put (cs := #[.int .i64 0, .int .i64 0, .int .i64 0, .int .i64 0, .int .i64 0, .int .i64 0, .bool false]) ?_ 0 _ rfl; (with_reducible repeat (first | refine blk_drewN ?_ _ | refine blk_drew ?_ | refine blk_alloc ?_ _)); exact BK363.out) hb); have n4_ := Aside0.mk (below_step (by repeat (first | (with_reducible first | exact HB.out | apply below_alloc | apply pw_below_drewN | apply below_drew1 | refine below_set ?_ GE347.out | refine below_set ?_ GE363.out) | exact HB.out)) hb); clear HO_5; clear HO_7; clear BK347; clear BK363; clear HB; have HO_5 := n0_; have HO_7 := n1_; have BK347 := n2_; have BK363 := n3_; have HB := n4_; clear n0_ n1_ n2_ n3_ n4_; (try clear hb); (try clear hb2); (try clear hk); (try clear hi))))
                          (try simp only [Act.put, List.setIfInBounds_toArray, List.set_cons_zero, List.set_cons_succ])
                          go_cut [105] (fun v105 wc => ∃ (kq : Nat) (x105_32 : Bool), v105 = .bool x105_32 ∧ Aside0 (metrolablaw47_GaugeNarrows.j3 kq t350 t354 x63_3 t364 l0 (l0.length : Int) x63_3 x105_32 a1_0 a1_1 ((rd_T27 l0 x63_3).f0.f0) ((rd_T27 l0 x63_3).f0.f1) ((rd_T27 l0 x63_3).f1.f0) ((rd_T27 l0 x63_3).f1.f1) ((rd_T27 l0 x63_3).f2) ((rd_T27 l0 x63_3).f3) ((rd_T27 l0 x63_3).f4) = some r) ∧ Aside0 (kq ≤ k3) ∧ Aside0 (Kd.R k104 104 wc w.heap.size (fun k_ => some k_ ≠ (v355 : Value).ownBlock) v351 t350) ∧ Aside0 (Kd.R k104 104 wc w.heap.size (fun k_ => some k_ ≠ (v351 : Value).ownBlock) v355 t354) ∧ Aside0 (wc.heap[gb347]? = some (.cells #[.int .i64 a1_0, .int .i64 a1_1] 44 (0, 0))) ∧ Aside0 (wc.heap[gb363]? = some (.cells #[.int .i64 ((rd_T27 l0 x63_3).f0.f0), .int .i64 ((rd_T27 l0 x63_3).f0.f1), .int .i64 ((rd_T27 l0 x63_3).f1.f0), .int .i64 ((rd_T27 l0 x63_3).f1.f1), .int .i64 ((rd_T27 l0 x63_3).f2), .int .i64 ((rd_T27 l0 x63_3).f3), .bool ((rd_T27 l0 x63_3).f4)] 27 (0, 0))) ∧ Aside0 (Below w.heap.size w wc))
                          case first =>
                            have H := HC33.out
                            clear HC33
                            by_cases c38 : t365 = 0
                            · rw [if_pos c38] at H
                              have c38b0 : (t365 == 0) = true := beq_iff_eq.mpr c38
                              have c38b1 : (t365 != 0) = false := bne_eq_false_iff_eq.mpr c38
                              clear c38
                              (first | rw [c38b0] | (simp only [i64_w, i32_w]; rw [c38b0]) | skip)
                              by_cases c39 : x63_3 < (t350.length : Int)
                              · rw [if_pos c39] at H
                                have c39b0 : decide (x63_3 < (t350.length : Int)) = true := decide_eq_true c39
                                clear c39
                                by_cases c40 : (!(((rd_T104 t350 x63_3).f2.f0) == t364) || (!(((rd_T104 t350 x63_3).f2.f1) == t364))) = true
                                · rw [if_pos c40] at H
                                  have c40b0 : (!(((rd_T104 t350 x63_3).f2.f0) == t364) || (!(((rd_T104 t350 x63_3).f2.f1) == t364))) = true := c40
                                  clear c40
                                  have H' := Aside0.mk H
                                  clear H
                                  obtain ⟨Ao41, co41, eo41⟩ := Kd.R_slice HO_5.out
                                  subst eo41
                                  have p366 : 0 ≤ (x63_3 : Int) := of_decide_eq_true (by first | (with_reducible assumption) | assumption)
                                  have q366 : x63_3 < (t350.length : Int) := of_decide_eq_true (by first | (with_reducible assumption) | assumption)
                                  obtain ⟨ad366, e366, hx366_0, hx366_1, hx366_2, hx366_3, hx366_4⟩ := at_T104 (Kd.R_reads' HO_5.out).2.2 x63_3 p366 q366
                                  cases e366
                                  replace p366 := eq_true p366
                                  replace q366 := eq_true q366
                                  go_wp2
                                  repeat (go_quiet (fail); try go_wp2)
                                  go_meet
                                  case rel => exact ⟨_, (true), (by first | rfl | (simp; done) | (simp [*]; done)), H', ⟨by have := HJ6.out; have := HJ22.out; have := HK3.out; first | omega | exact Nat.le_refl _⟩, ⟨by (with_reducible repeat (first | apply Kd.R_alloc | apply Kd.R_drewN | apply Kd.R_drew)); exact HO_5.out⟩, ⟨by (with_reducible repeat (first | apply Kd.R_alloc | apply Kd.R_drewN | apply Kd.R_drew)); exact HO_7.out⟩, ⟨by (with_reducible repeat (first | refine blk_drewN ?_ _ | refine blk_drew ?_ | refine blk_alloc ?_ _)); exact BK347.out⟩, ⟨by (with_reducible repeat (first | refine blk_drewN ?_ _ | refine blk_drew ?_ | refine blk_alloc ?_ _)); exact BK363.out⟩, ⟨by repeat (first | (with_reducible first | exact HB.out | apply below_alloc | apply pw_below_drewN | apply below_drew1 | refine below_set ?_ GE347.out | refine below_set ?_ GE363.out) | exact HB.out)⟩⟩
                                · rw [if_neg c40] at H
                                  have c40b0 : (!(((rd_T104 t350 x63_3).f2.f0) == t364) || (!(((rd_T104 t350 x63_3).f2.f1) == t364))) = false := by simpa using c40
                                  clear c40
                                  by_cases c42 : (!(((rd_T104 t350 x63_3).f0.f0) == ((rd_T27 l0 x63_3).f0.f0)) || (!(((rd_T104 t350 x63_3).f0.f1) == ((rd_T27 l0 x63_3).f0.f1)))) = true
                                  · rw [if_pos c42] at H
                                    have c42b0 : (!(((rd_T104 t350 x63_3).f0.f0) == ((rd_T27 l0 x63_3).f0.f0)) || (!(((rd_T104 t350 x63_3).f0.f1) == ((rd_T27 l0 x63_3).f0.f1)))) = true := c42
                                    clear c42
                                    have H' := Aside0.mk H
                                    clear H
                                    obtain ⟨Ao43, co43, eo43⟩ := Kd.R_slice HO_5.out
                                    subst eo43
                                    have p366 : 0 ≤ (x63_3 : Int) := of_decide_eq_true (by first | (with_reducible assumption) | assumption)
                                    have q366 : x63_3 < (t350.length : Int) := of_decide_eq_true (by first | (with_reducible assumption) | assumption)
                                    obtain ⟨ad366, e366, hx366_0, hx366_1, hx366_2, hx366_3, hx366_4⟩ := at_T104 (Kd.R_reads' HO_5.out).2.2 x63_3 p366 q366
                                    cases e366
                                    replace p366 := eq_true p366
                                    replace q366 := eq_true q366
                                    have p367 : 0 ≤ (x63_3 : Int) := of_decide_eq_true (by first | (with_reducible assumption) | assumption)
                                    have q367 : x63_3 < (t350.length : Int) := of_decide_eq_true (by first | (with_reducible assumption) | assumption)
                                    obtain ⟨ad367, e367, hx367_0, hx367_1, hx367_2, hx367_3, hx367_4⟩ := at_T104 (Kd.R_reads' HO_5.out).2.2 x63_3 p367 q367
                                    obtain rfl : ad366 = ad367 := (by injection e367)
                                    replace p367 := eq_true p367
                                    replace q367 := eq_true q367
                                    have hnb44 := NB363_347.out
                                    have hnc44 := NB347_363.out
                                    have hcz45_0 : w37.cell? ⟨gb363, 0, none⟩ = some (.int .i64 ((rd_T27 l0 x63_3).f0.f0)) := (blk_cell BK363.out 0).trans rfl
                                    have hcz45_1 : w37.cell? ⟨gb363, 1, none⟩ = some (.int .i64 ((rd_T27 l0 x63_3).f0.f1)) := (blk_cell BK363.out 1).trans rfl
                                    have hcz45_2 : w37.cell? ⟨gb363, 2, none⟩ = some (.int .i64 ((rd_T27 l0 x63_3).f1.f0)) := (blk_cell BK363.out 2).trans rfl
                                    have hcz45_3 : w37.cell? ⟨gb363, 3, none⟩ = some (.int .i64 ((rd_T27 l0 x63_3).f1.f1)) := (blk_cell BK363.out 3).trans rfl
                                    have hcz45_4 : w37.cell? ⟨gb363, 4, none⟩ = some (.int .i64 ((rd_T27 l0 x63_3).f2)) := (blk_cell BK363.out 4).trans rfl
                                    have hcz45_5 : w37.cell? ⟨gb363, 5, none⟩ = some (.int .i64 ((rd_T27 l0 x63_3).f3)) := (blk_cell BK363.out 5).trans rfl
                                    have hcz45_6 : w37.cell? ⟨gb363, 6, none⟩ = some (.bool ((rd_T27 l0 x63_3).f4)) := (blk_cell BK363.out 6).trans rfl
                                    have hfz45_0 := blk_frozen BK363.out 0
                                    have hfz45_1 := blk_frozen BK363.out 1
                                    have hfz45_2 := blk_frozen BK363.out 2
                                    have hfz45_3 := blk_frozen BK363.out 3
                                    have hfz45_4 := blk_frozen BK363.out 4
                                    have hfz45_5 := blk_frozen BK363.out 5
                                    have hfz45_6 := blk_frozen BK363.out 6
                                    go_wp2
                                    repeat (go_quiet (fail); try go_wp2)
                                    go_meet
                                    case rel => exact ⟨_, (true), (by first | rfl | (simp; done) | (simp [*]; done)), H', ⟨by have := HJ6.out; have := HJ22.out; have := HK3.out; first | omega | exact Nat.le_refl _⟩, ⟨by (with_reducible repeat (first | apply Kd.R_alloc | apply Kd.R_drewN | apply Kd.R_drew)); exact HO_5.out⟩, ⟨by (with_reducible repeat (first | apply Kd.R_alloc | apply Kd.R_drewN | apply Kd.R_drew)); exact HO_7.out⟩, ⟨by (with_reducible repeat (first | refine blk_drewN ?_ _ | refine blk_drew ?_ | refine blk_alloc ?_ _)); exact BK347.out⟩, ⟨by (with_reducible repeat (first | refine blk_drewN ?_ _ | refine blk_drew ?_ | refine blk_alloc ?_ _)); exact BK363.out⟩, ⟨by repeat (first | (with_reducible first | exact HB.out | apply below_alloc | apply pw_below_drewN | apply below_drew1 | refine below_set ?_ GE347.out | refine below_set ?_ GE363.out) | exact HB.out)⟩⟩
                                  · rw [if_neg c42] at H
                                    have c42b0 : (!(((rd_T104 t350 x63_3).f0.f0) == ((rd_T27 l0 x63_3).f0.f0)) || (!(((rd_T104 t350 x63_3).f0.f1) == ((rd_T27 l0 x63_3).f0.f1)))) = false := by simpa using c42
                                    clear c42
                                    have H' := Aside0.mk H
                                    clear H
                                    obtain ⟨Ao46, co46, eo46⟩ := Kd.R_slice HO_5.out
                                    subst eo46
                                    have p366 : 0 ≤ (x63_3 : Int) := of_decide_eq_true (by first | (with_reducible assumption) | assumption)
                                    have q366 : x63_3 < (t350.length : Int) := of_decide_eq_true (by first | (with_reducible assumption) | assumption)
                                    obtain ⟨ad366, e366, hx366_0, hx366_1, hx366_2, hx366_3, hx366_4⟩ := at_T104 (Kd.R_reads' HO_5.out).2.2 x63_3 p366 q366
                                    cases e366
                                    replace p366 := eq_true p366
                                    replace q366 := eq_true q366
                                    have p367 : 0 ≤ (x63_3 : Int) := of_decide_eq_true (by first | (with_reducible assumption) | assumption)
                                    have q367 : x63_3 < (t350.length : Int) := of_decide_eq_true (by first | (with_reducible assumption) | assumption)
                                    obtain ⟨ad367, e367, hx367_0, hx367_1, hx367_2, hx367_3, hx367_4⟩ := at_T104 (Kd.R_reads' HO_5.out).2.2 x63_3 p367 q367
                                    obtain rfl : ad366 = ad367 := (by injection e367)
                                    replace p367 := eq_true p367
                                    replace q367 := eq_true q367
                                    have hnb47 := NB363_347.out
                                    have hnc47 := NB347_363.out
                                    have hcz48_0 : w37.cell? ⟨gb363, 0, none⟩ = some (.int .i64 ((rd_T27 l0 x63_3).f0.f0)) := (blk_cell BK363.out 0).trans rfl
                                    have hcz48_1 : w37.cell? ⟨gb363, 1, none⟩ = some (.int .i64 ((rd_T27 l0 x63_3).f0.f1)) := (blk_cell BK363.out 1).trans rfl
                                    have hcz48_2 : w37.cell? ⟨gb363, 2, none⟩ = some (.int .i64 ((rd_T27 l0 x63_3).f1.f0)) := (blk_cell BK363.out 2).trans rfl
                                    have hcz48_3 : w37.cell? ⟨gb363, 3, none⟩ = some (.int .i64 ((rd_T27 l0 x63_3).f1.f1)) := (blk_cell BK363.out 3).trans rfl
                                    have hcz48_4 : w37.cell? ⟨gb363, 4, none⟩ = some (.int .i64 ((rd_T27 l0 x63_3).f2)) := (blk_cell BK363.out 4).trans rfl
                                    have hcz48_5 : w37.cell? ⟨gb363, 5, none⟩ = some (.int .i64 ((rd_T27 l0 x63_3).f3)) := (blk_cell BK363.out 5).trans rfl
                                    have hcz48_6 : w37.cell? ⟨gb363, 6, none⟩ = some (.bool ((rd_T27 l0 x63_3).f4)) := (blk_cell BK363.out 6).trans rfl
                                    have hfz48_0 := blk_frozen BK363.out 0
                                    have hfz48_1 := blk_frozen BK363.out 1
                                    have hfz48_2 := blk_frozen BK363.out 2
                                    have hfz48_3 := blk_frozen BK363.out 3
                                    have hfz48_4 := blk_frozen BK363.out 4
                                    have hfz48_5 := blk_frozen BK363.out 5
                                    have hfz48_6 := blk_frozen BK363.out 6
                                    have p368 : 0 ≤ (x63_3 : Int) := of_decide_eq_true (by first | (with_reducible assumption) | assumption)
                                    have q368 : x63_3 < (t350.length : Int) := of_decide_eq_true (by first | (with_reducible assumption) | assumption)
                                    obtain ⟨ad368, e368, hx368_0, hx368_1, hx368_2, hx368_3, hx368_4⟩ := at_T104 (Kd.R_reads' HO_5.out).2.2 x63_3 p368 q368
                                    obtain rfl : ad366 = ad368 := (by injection e368)
                                    replace p368 := eq_true p368
                                    replace q368 := eq_true q368
                                    go_wp2
                                    repeat (go_quiet (fail); try go_wp2)
                                    go_meet
                                    case rel => exact ⟨_, ((((rd_T104 t350 x63_3).f1) != ((rd_T27 l0 x63_3).f4))), (by first | rfl | (simp; done) | (simp [*]; done)), H', ⟨by have := HJ6.out; have := HJ22.out; have := HK3.out; first | omega | exact Nat.le_refl _⟩, ⟨by (with_reducible repeat (first | apply Kd.R_alloc | apply Kd.R_drewN | apply Kd.R_drew)); exact HO_5.out⟩, ⟨by (with_reducible repeat (first | apply Kd.R_alloc | apply Kd.R_drewN | apply Kd.R_drew)); exact HO_7.out⟩, ⟨by (with_reducible repeat (first | refine blk_drewN ?_ _ | refine blk_drew ?_ | refine blk_alloc ?_ _)); exact BK347.out⟩, ⟨by (with_reducible repeat (first | refine blk_drewN ?_ _ | refine blk_drew ?_ | refine blk_alloc ?_ _)); exact BK363.out⟩, ⟨by repeat (first | (with_reducible first | exact HB.out | apply below_alloc | apply pw_below_drewN | apply below_drew1 | refine below_set ?_ GE347.out | refine below_set ?_ GE363.out) | exact HB.out)⟩⟩
                              · rw [if_neg c39] at H
                                exact absurd H (by simp)
                            · rw [if_neg c38] at H
                              have c38b0 : (t365 == 0) = false := beq_eq_false_iff_ne.mpr c38
                              have c38b1 : (t365 != 0) = true := bne_iff_ne.mpr c38
                              (first | rw [c38b0] | (simp only [i64_w, i32_w]; rw [c38b0]) | skip)
                              have H' := Aside0.mk H
                              clear H
                              go_wp2
                              repeat (go_quiet (fail); try go_wp2)
                              go_meet
                              case rel => exact ⟨_, (true), (by first | rfl | (simp; done) | (simp [*]; done)), H', ⟨by have := HJ6.out; have := HJ22.out; have := HK3.out; first | omega | exact Nat.le_refl _⟩, ⟨by (with_reducible repeat (first | apply Kd.R_alloc | apply Kd.R_drewN | apply Kd.R_drew)); exact HO_5.out⟩, ⟨by (with_reducible repeat (first | apply Kd.R_alloc | apply Kd.R_drewN | apply Kd.R_drew)); exact HO_7.out⟩, ⟨by (with_reducible repeat (first | refine blk_drewN ?_ _ | refine blk_drew ?_ | refine blk_alloc ?_ _)); exact BK347.out⟩, ⟨by (with_reducible repeat (first | refine blk_drewN ?_ _ | refine blk_drew ?_ | refine blk_alloc ?_ _)); exact BK363.out⟩, ⟨by repeat (first | (with_reducible first | exact HB.out | apply below_alloc | apply pw_below_drewN | apply below_drew1 | refine below_set ?_ GE347.out | refine below_set ?_ GE363.out) | exact HB.out)⟩⟩
                          case rest =>
                            clear HC33
                            try clear c1
                            try clear c2
                            try clear p2
                            try clear c3
                            try clear p3
                            try clear q3
                            try clear hx3
                            try clear c4
                            try clear c12
                            try clear c12b0
                            try clear c12b1
                            try clear c13
                            try clear c14
                            try clear c14b0
                            try clear c14b1
                            try clear c16
                            try clear c17
                            try clear c17b0
                            try clear c17b1
                            try clear c20
                            try clear c20b0
                            try clear c20b1
                            try clear c24
                            try clear c24b0
                            try clear c24b1
                            try clear c24b2
                            try clear c28
                            try clear c29
                            try clear c29b0
                            try clear c30
                            try clear c30b0
                            try clear c31
                            try clear c31b0
                            try clear c35
                            try clear p36
                            try clear q36
                            try clear hx36
                            try clear c38
                            try clear c38b0
                            try clear c38b1
                            try clear c39
                            try clear c39b0
                            try clear c40
                            try clear c40b0
                            try clear c42
                            try clear c42b0
                            try clear c44
                            try clear c47
                            try clear hcz10_0
                            try clear hcz10_1
                            try clear hcz36_0
                            try clear hcz36_1
                            try clear hcz36_2
                            try clear hcz36_3
                            try clear hcz36_4
                            try clear hcz36_5
                            try clear hcz36_6
                            try clear hcz45_0
                            try clear hcz45_1
                            try clear hcz45_2
                            try clear hcz45_3
                            try clear hcz45_4
                            try clear hcz45_5
                            try clear hcz45_6
                            try clear hcz48_0
                            try clear hcz48_1
                            try clear hcz48_2
                            try clear hcz48_3
                            try clear hcz48_4
                            try clear hcz48_5
                            try clear hcz48_6
                            try clear hfz10_0
                            try clear hfz10_1
                            try clear hfz36_0
                            try clear hfz36_1
                            try clear hfz36_2
                            try clear hfz36_3
                            try clear hfz36_4
                            try clear hfz36_5
                            try clear hfz36_6
                            try clear hfz45_0
                            try clear hfz45_1
                            try clear hfz45_2
                            try clear hfz45_3
                            try clear hfz45_4
                            try clear hfz45_5
                            try clear hfz45_6
                            try clear hfz48_0
                            try clear hfz48_1
                            try clear hfz48_2
                            try clear hfz48_3
                            try clear hfz48_4
                            try clear hfz48_5
                            try clear hfz48_6
                            try clear hx362_0
                            try clear hx362_1
                            try clear hx362_2
                            try clear hx362_3
                            try clear hx362_4
                            try clear hx362_5
                            try clear hx362_6
                            try clear hx366_0
                            try clear hx366_1
                            try clear hx366_2
                            try clear hx366_3
                            try clear hx366_4
                            try clear hx367_0
                            try clear hx367_1
                            try clear hx367_2
                            try clear hx367_3
                            try clear hx367_4
                            try clear hx368_0
                            try clear hx368_1
                            try clear hx368_2
                            try clear hx368_3
                            try clear hx368_4
                            try clear p2
                            try clear p362
                            try clear p366
                            try clear p367
                            try clear p368
                            try clear q362
                            try clear q366
                            try clear q367
                            try clear q368
                            obtain ⟨kq, x105_32, rfl, HA, HJ32, HO_5, HO_7, BK347, BK363, HB⟩ := hcut
                            cases kq with
                            | zero => exact absurd HA.out (by simp [metrolablaw47_GaugeNarrows.j3])
                            | succ kj32 =>
                              have H := HA.out
                              clear HA
                              simp only [metrolablaw47_GaugeNarrows.j3] at H
                              by_cases c49 : x105_32 = true
                              · subst c49
                                have H1 : (some false) = some r := by rw [if_pos rfl] at H; exact H
                                clear H
                                have H := H1
                                clear H1
                                obtain rfl := Option.some.inj H
                                go_wp2
                                repeat (go_quiet (fail); try go_wp2)
                                go_ret
                                exact ⟨by first | rfl | (simp [errW_none, errW_some] <;> rfl) | (simp [*, errW_none, errW_some] <;> rfl), by repeat (first | (with_reducible first | exact HB.out | apply below_alloc | apply pw_below_drewN | apply below_drew1 | refine below_set ?_ GE347.out | refine below_set ?_ GE363.out) | exact HB.out)⟩
                              · replace c49 := Bool.eq_false_iff.mpr c49
                                subst c49
                                have H1 : (if ((rd_T27 l0 x63_3).f4) = true then (if 0 ≤ x63_3 then (if x63_3 < (t354.length : Int) then (if ((rd_T104 t354 x63_3).f2.f1) > t364 then (some false) else (if (wrap64 (t364 - ((rd_T104 t354 x63_3).f2.f1))) = a1_0 then (metrolablaw47_GaugeNarrows.l0 kj32 t350 t354 l0 (l0.length : Int) (wrap64 (x63_3 + 1)) a1_0 a1_1) else (some false))) else (none)) else (none)) else (if 0 ≤ x63_3 then (if x63_3 < (t354.length : Int) then (if ((rd_T104 t354 x63_3).f2.f0) < t364 then (some false) else (if (wrap64 (((rd_T104 t354 x63_3).f2.f0) - t364)) = a1_0 then (metrolablaw47_GaugeNarrows.l0 kj32 t350 t354 l0 (l0.length : Int) (wrap64 (x63_3 + 1)) a1_0 a1_1) else (some false))) else (none)) else (none))) = some r := by rw [if_neg (show ¬ (false = true) by decide)] at H; exact H
                                clear H
                                have H := H1
                                clear H1
                                by_cases c50 : ((rd_T27 l0 x63_3).f4) = true
                                · rw [if_pos c50] at H
                                  have c50b0 : ((rd_T27 l0 x63_3).f4) = true := c50
                                  clear c50
                                  by_cases c51 : 0 ≤ x63_3
                                  · rw [if_pos c51] at H
                                    have c51b0 : decide (0 ≤ x63_3) = true := decide_eq_true c51
                                    clear c51
                                    by_cases c52 : x63_3 < (t354.length : Int)
                                    · rw [if_pos c52] at H
                                      have c52b0 : decide (x63_3 < (t354.length : Int)) = true := decide_eq_true c52
                                      clear c52
                                      by_cases c53 : ((rd_T104 t354 x63_3).f2.f1) > t364
                                      · rw [if_pos c53] at H
                                        have c53b0 : decide (t364 < ((rd_T104 t354 x63_3).f2.f1)) = true := decide_eq_true c53
                                        clear c53
                                        obtain rfl := Option.some.inj H
                                        have hnb54 := NB363_347.out
                                        have hnc54 := NB347_363.out
                                        have hcz55_0 : wc.cell? ⟨gb363, 0, none⟩ = some (.int .i64 ((rd_T27 l0 x63_3).f0.f0)) := (blk_cell BK363.out 0).trans rfl
                                        have hcz55_1 : wc.cell? ⟨gb363, 1, none⟩ = some (.int .i64 ((rd_T27 l0 x63_3).f0.f1)) := (blk_cell BK363.out 1).trans rfl
                                        have hcz55_2 : wc.cell? ⟨gb363, 2, none⟩ = some (.int .i64 ((rd_T27 l0 x63_3).f1.f0)) := (blk_cell BK363.out 2).trans rfl
                                        have hcz55_3 : wc.cell? ⟨gb363, 3, none⟩ = some (.int .i64 ((rd_T27 l0 x63_3).f1.f1)) := (blk_cell BK363.out 3).trans rfl
                                        have hcz55_4 : wc.cell? ⟨gb363, 4, none⟩ = some (.int .i64 ((rd_T27 l0 x63_3).f2)) := (blk_cell BK363.out 4).trans rfl
                                        have hcz55_5 : wc.cell? ⟨gb363, 5, none⟩ = some (.int .i64 ((rd_T27 l0 x63_3).f3)) := (blk_cell BK363.out 5).trans rfl
                                        have hcz55_6 : wc.cell? ⟨gb363, 6, none⟩ = some (.bool ((rd_T27 l0 x63_3).f4)) := (blk_cell BK363.out 6).trans rfl
                                        have hfz55_0 := blk_frozen BK363.out 0
                                        have hfz55_1 := blk_frozen BK363.out 1
                                        have hfz55_2 := blk_frozen BK363.out 2
                                        have hfz55_3 := blk_frozen BK363.out 3
                                        have hfz55_4 := blk_frozen BK363.out 4
                                        have hfz55_5 := blk_frozen BK363.out 5
                                        have hfz55_6 := blk_frozen BK363.out 6
                                        obtain ⟨Ao56, co56, eo56⟩ := Kd.R_slice HO_7.out
                                        subst eo56
                                        have p369 : 0 ≤ (x63_3 : Int) := of_decide_eq_true (by first | (with_reducible assumption) | assumption)
                                        have q369 : x63_3 < (t354.length : Int) := of_decide_eq_true (by first | (with_reducible assumption) | assumption)
                                        obtain ⟨ad369, e369, hx369_0, hx369_1, hx369_2, hx369_3, hx369_4⟩ := at_T104 (Kd.R_reads' HO_7.out).2.2 x63_3 p369 q369
                                        cases e369
                                        replace p369 := eq_true p369
                                        replace q369 := eq_true q369
                                        go_wp2
                                        repeat (go_quiet (fail); try go_wp2)
                                        go_ret
                                        exact ⟨by first | rfl | (simp [errW_none, errW_some] <;> rfl) | (simp [*, errW_none, errW_some] <;> rfl), by repeat (first | (with_reducible first | exact HB.out | apply below_alloc | apply pw_below_drewN | apply below_drew1 | refine below_set ?_ GE347.out | refine below_set ?_ GE363.out) | exact HB.out)⟩
                                      · rw [if_neg c53] at H
                                        have c53b0 : decide (t364 < ((rd_T104 t354 x63_3).f2.f1)) = false := decide_eq_false c53
                                        clear c53
                                        by_cases c57 : (wrap64 (t364 - ((rd_T104 t354 x63_3).f2.f1))) = a1_0
                                        · rw [if_pos c57] at H
                                          have c57b0 : ((wrap64 (t364 - ((rd_T104 t354 x63_3).f2.f1))) == a1_0) = true := beq_iff_eq.mpr c57
                                          have c57b1 : ((wrap64 (t364 - ((rd_T104 t354 x63_3).f2.f1))) != a1_0) = false := bne_eq_false_iff_eq.mpr c57
                                          clear c57
                                          have H' := Aside0.mk H
                                          clear H
                                          have hnb58 := NB363_347.out
                                          have hnc58 := NB347_363.out
                                          have hcz59_0 : wc.cell? ⟨gb363, 0, none⟩ = some (.int .i64 ((rd_T27 l0 x63_3).f0.f0)) := (blk_cell BK363.out 0).trans rfl
                                          have hcz59_1 : wc.cell? ⟨gb363, 1, none⟩ = some (.int .i64 ((rd_T27 l0 x63_3).f0.f1)) := (blk_cell BK363.out 1).trans rfl
                                          have hcz59_2 : wc.cell? ⟨gb363, 2, none⟩ = some (.int .i64 ((rd_T27 l0 x63_3).f1.f0)) := (blk_cell BK363.out 2).trans rfl
                                          have hcz59_3 : wc.cell? ⟨gb363, 3, none⟩ = some (.int .i64 ((rd_T27 l0 x63_3).f1.f1)) := (blk_cell BK363.out 3).trans rfl
                                          have hcz59_4 : wc.cell? ⟨gb363, 4, none⟩ = some (.int .i64 ((rd_T27 l0 x63_3).f2)) := (blk_cell BK363.out 4).trans rfl
                                          have hcz59_5 : wc.cell? ⟨gb363, 5, none⟩ = some (.int .i64 ((rd_T27 l0 x63_3).f3)) := (blk_cell BK363.out 5).trans rfl
                                          have hcz59_6 : wc.cell? ⟨gb363, 6, none⟩ = some (.bool ((rd_T27 l0 x63_3).f4)) := (blk_cell BK363.out 6).trans rfl
                                          have hfz59_0 := blk_frozen BK363.out 0
                                          have hfz59_1 := blk_frozen BK363.out 1
                                          have hfz59_2 := blk_frozen BK363.out 2
                                          have hfz59_3 := blk_frozen BK363.out 3
                                          have hfz59_4 := blk_frozen BK363.out 4
                                          have hfz59_5 := blk_frozen BK363.out 5
                                          have hfz59_6 := blk_frozen BK363.out 6
                                          obtain ⟨Ao60, co60, eo60⟩ := Kd.R_slice HO_7.out
                                          subst eo60
                                          have p369 : 0 ≤ (x63_3 : Int) := of_decide_eq_true (by first | (with_reducible assumption) | assumption)
                                          have q369 : x63_3 < (t354.length : Int) := of_decide_eq_true (by first | (with_reducible assumption) | assumption)
                                          obtain ⟨ad369, e369, hx369_0, hx369_1, hx369_2, hx369_3, hx369_4⟩ := at_T104 (Kd.R_reads' HO_7.out).2.2 x63_3 p369 q369
                                          cases e369
                                          replace p369 := eq_true p369
                                          replace q369 := eq_true q369
                                          have p370 : 0 ≤ (x63_3 : Int) := of_decide_eq_true (by first | (with_reducible assumption) | assumption)
                                          have q370 : x63_3 < (t354.length : Int) := of_decide_eq_true (by first | (with_reducible assumption) | assumption)
                                          obtain ⟨ad370, e370, hx370_0, hx370_1, hx370_2, hx370_3, hx370_4⟩ := at_T104 (Kd.R_reads' HO_7.out).2.2 x63_3 p370 q370
                                          obtain rfl : ad369 = ad370 := (by injection e370)
                                          replace p370 := eq_true p370
                                          replace q370 := eq_true q370
                                          have hcz61_0 : wc.cell? ⟨gb347, 0, none⟩ = some (.int .i64 a1_0) := (blk_cell BK347.out 0).trans rfl
                                          have hcz61_1 : wc.cell? ⟨gb347, 1, none⟩ = some (.int .i64 a1_1) := (blk_cell BK347.out 1).trans rfl
                                          have hfz61_0 := blk_frozen BK347.out 0
                                          have hfz61_1 := blk_frozen BK347.out 1
                                          go_wp2
                                          repeat (go_quiet (fail); try go_wp2)
                                          go_roundg kj32
                                          case measure => have := HJ6.out; have := HJ22.out; have := HK3.out; have := HJ32.out; omega
                                          case rel => exact ⟨(wrap64 (x63_3 + 1)), (by first | rfl | (simp; done) | (simp [*]; done)), H', ⟨by have := HJ6.out; have := HJ22.out; have := HK3.out; have := HJ32.out; omega⟩, ⟨by (with_reducible repeat (first | apply Kd.R_alloc | apply Kd.R_drewN | apply Kd.R_drew)); exact HO_5.out⟩, ⟨by (with_reducible repeat (first | apply Kd.R_alloc | apply Kd.R_drewN | apply Kd.R_drew)); exact HO_7.out⟩, ⟨by (with_reducible repeat (first | refine blk_drewN ?_ _ | refine blk_drew ?_ | refine blk_alloc ?_ _)); exact BK347.out⟩, ⟨by repeat (first | (with_reducible first | exact HB.out | apply below_alloc | apply pw_below_drewN | apply below_drew1 | refine below_set ?_ GE347.out | refine below_set ?_ GE363.out) | exact HB.out)⟩⟩
                                        · rw [if_neg c57] at H
                                          have c57b0 : ((wrap64 (t364 - ((rd_T104 t354 x63_3).f2.f1))) == a1_0) = false := beq_eq_false_iff_ne.mpr c57
                                          have c57b1 : ((wrap64 (t364 - ((rd_T104 t354 x63_3).f2.f1))) != a1_0) = true := bne_iff_ne.mpr c57
                                          obtain rfl := Option.some.inj H
                                          have hnb62 := NB363_347.out
                                          have hnc62 := NB347_363.out
                                          have hcz63_0 : wc.cell? ⟨gb363, 0, none⟩ = some (.int .i64 ((rd_T27 l0 x63_3).f0.f0)) := (blk_cell BK363.out 0).trans rfl
                                          have hcz63_1 : wc.cell? ⟨gb363, 1, none⟩ = some (.int .i64 ((rd_T27 l0 x63_3).f0.f1)) := (blk_cell BK363.out 1).trans rfl
                                          have hcz63_2 : wc.cell? ⟨gb363, 2, none⟩ = some (.int .i64 ((rd_T27 l0 x63_3).f1.f0)) := (blk_cell BK363.out 2).trans rfl
                                          have hcz63_3 : wc.cell? ⟨gb363, 3, none⟩ = some (.int .i64 ((rd_T27 l0 x63_3).f1.f1)) := (blk_cell BK363.out 3).trans rfl
                                          have hcz63_4 : wc.cell? ⟨gb363, 4, none⟩ = some (.int .i64 ((rd_T27 l0 x63_3).f2)) := (blk_cell BK363.out 4).trans rfl
                                          have hcz63_5 : wc.cell? ⟨gb363, 5, none⟩ = some (.int .i64 ((rd_T27 l0 x63_3).f3)) := (blk_cell BK363.out 5).trans rfl
                                          have hcz63_6 : wc.cell? ⟨gb363, 6, none⟩ = some (.bool ((rd_T27 l0 x63_3).f4)) := (blk_cell BK363.out 6).trans rfl
                                          have hfz63_0 := blk_frozen BK363.out 0
                                          have hfz63_1 := blk_frozen BK363.out 1
                                          have hfz63_2 := blk_frozen BK363.out 2
                                          have hfz63_3 := blk_frozen BK363.out 3
                                          have hfz63_4 := blk_frozen BK363.out 4
                                          have hfz63_5 := blk_frozen BK363.out 5
                                          have hfz63_6 := blk_frozen BK363.out 6
                                          obtain ⟨Ao64, co64, eo64⟩ := Kd.R_slice HO_7.out
                                          subst eo64
                                          have p369 : 0 ≤ (x63_3 : Int) := of_decide_eq_true (by first | (with_reducible assumption) | assumption)
                                          have q369 : x63_3 < (t354.length : Int) := of_decide_eq_true (by first | (with_reducible assumption) | assumption)
                                          obtain ⟨ad369, e369, hx369_0, hx369_1, hx369_2, hx369_3, hx369_4⟩ := at_T104 (Kd.R_reads' HO_7.out).2.2 x63_3 p369 q369
                                          cases e369
                                          replace p369 := eq_true p369
                                          replace q369 := eq_true q369
                                          have p370 : 0 ≤ (x63_3 : Int) := of_decide_eq_true (by first | (with_reducible assumption) | assumption)
                                          have q370 : x63_3 < (t354.length : Int) := of_decide_eq_true (by first | (with_reducible assumption) | assumption)
                                          obtain ⟨ad370, e370, hx370_0, hx370_1, hx370_2, hx370_3, hx370_4⟩ := at_T104 (Kd.R_reads' HO_7.out).2.2 x63_3 p370 q370
                                          obtain rfl : ad369 = ad370 := (by injection e370)
                                          replace p370 := eq_true p370
                                          replace q370 := eq_true q370
                                          have hcz65_0 : wc.cell? ⟨gb347, 0, none⟩ = some (.int .i64 a1_0) := (blk_cell BK347.out 0).trans rfl
                                          have hcz65_1 : wc.cell? ⟨gb347, 1, none⟩ = some (.int .i64 a1_1) := (blk_cell BK347.out 1).trans rfl
                                          have hfz65_0 := blk_frozen BK347.out 0
                                          have hfz65_1 := blk_frozen BK347.out 1
                                          go_wp2
                                          repeat (go_quiet (fail); try go_wp2)
                                          go_ret
                                          exact ⟨by first | rfl | (simp [errW_none, errW_some] <;> rfl) | (simp [*, errW_none, errW_some] <;> rfl), by repeat (first | (with_reducible first | exact HB.out | apply below_alloc | apply pw_below_drewN | apply below_drew1 | refine below_set ?_ GE347.out | refine below_set ?_ GE363.out) | exact HB.out)⟩
                                    · rw [if_neg c52] at H
                                      exact absurd H (by simp)
                                  · rw [if_neg c51] at H
                                    exact absurd H (by simp)
                                · rw [if_neg c50] at H
                                  have c50b0 : ((rd_T27 l0 x63_3).f4) = false := by simpa using c50
                                  clear c50
                                  by_cases c66 : 0 ≤ x63_3
                                  · rw [if_pos c66] at H
                                    have c66b0 : decide (0 ≤ x63_3) = true := decide_eq_true c66
                                    clear c66
                                    by_cases c67 : x63_3 < (t354.length : Int)
                                    · rw [if_pos c67] at H
                                      have c67b0 : decide (x63_3 < (t354.length : Int)) = true := decide_eq_true c67
                                      clear c67
                                      by_cases c68 : ((rd_T104 t354 x63_3).f2.f0) < t364
                                      · rw [if_pos c68] at H
                                        have c68b0 : decide (((rd_T104 t354 x63_3).f2.f0) < t364) = true := decide_eq_true c68
                                        clear c68
                                        obtain rfl := Option.some.inj H
                                        have hnb69 := NB363_347.out
                                        have hnc69 := NB347_363.out
                                        have hcz70_0 : wc.cell? ⟨gb363, 0, none⟩ = some (.int .i64 ((rd_T27 l0 x63_3).f0.f0)) := (blk_cell BK363.out 0).trans rfl
                                        have hcz70_1 : wc.cell? ⟨gb363, 1, none⟩ = some (.int .i64 ((rd_T27 l0 x63_3).f0.f1)) := (blk_cell BK363.out 1).trans rfl
                                        have hcz70_2 : wc.cell? ⟨gb363, 2, none⟩ = some (.int .i64 ((rd_T27 l0 x63_3).f1.f0)) := (blk_cell BK363.out 2).trans rfl
                                        have hcz70_3 : wc.cell? ⟨gb363, 3, none⟩ = some (.int .i64 ((rd_T27 l0 x63_3).f1.f1)) := (blk_cell BK363.out 3).trans rfl
                                        have hcz70_4 : wc.cell? ⟨gb363, 4, none⟩ = some (.int .i64 ((rd_T27 l0 x63_3).f2)) := (blk_cell BK363.out 4).trans rfl
                                        have hcz70_5 : wc.cell? ⟨gb363, 5, none⟩ = some (.int .i64 ((rd_T27 l0 x63_3).f3)) := (blk_cell BK363.out 5).trans rfl
                                        have hcz70_6 : wc.cell? ⟨gb363, 6, none⟩ = some (.bool ((rd_T27 l0 x63_3).f4)) := (blk_cell BK363.out 6).trans rfl
                                        have hfz70_0 := blk_frozen BK363.out 0
                                        have hfz70_1 := blk_frozen BK363.out 1
                                        have hfz70_2 := blk_frozen BK363.out 2
                                        have hfz70_3 := blk_frozen BK363.out 3
                                        have hfz70_4 := blk_frozen BK363.out 4
                                        have hfz70_5 := blk_frozen BK363.out 5
                                        have hfz70_6 := blk_frozen BK363.out 6
                                        obtain ⟨Ao71, co71, eo71⟩ := Kd.R_slice HO_7.out
                                        subst eo71
                                        have p371 : 0 ≤ (x63_3 : Int) := of_decide_eq_true (by first | (with_reducible assumption) | assumption)
                                        have q371 : x63_3 < (t354.length : Int) := of_decide_eq_true (by first | (with_reducible assumption) | assumption)
                                        obtain ⟨ad371, e371, hx371_0, hx371_1, hx371_2, hx371_3, hx371_4⟩ := at_T104 (Kd.R_reads' HO_7.out).2.2 x63_3 p371 q371
                                        cases e371
                                        replace p371 := eq_true p371
                                        replace q371 := eq_true q371
                                        go_wp2
                                        repeat (go_quiet (fail); try go_wp2)
                                        go_ret
                                        exact ⟨by first | rfl | (simp [errW_none, errW_some] <;> rfl) | (simp [*, errW_none, errW_some] <;> rfl), by repeat (first | (with_reducible first | exact HB.out | apply below_alloc | apply pw_below_drewN | apply below_drew1 | refine below_set ?_ GE347.out | refine below_set ?_ GE363.out) | exact HB.out)⟩
                                      · rw [if_neg c68] at H
                                        have c68b0 : decide (((rd_T104 t354 x63_3).f2.f0) < t364) = false := decide_eq_false c68
                                        clear c68
                                        by_cases c72 : (wrap64 (((rd_T104 t354 x63_3).f2.f0) - t364)) = a1_0
                                        · rw [if_pos c72] at H
                                          have c72b0 : ((wrap64 (((rd_T104 t354 x63_3).f2.f0) - t364)) == a1_0) = true := beq_iff_eq.mpr c72
                                          have c72b1 : ((wrap64 (((rd_T104 t354 x63_3).f2.f0) - t364)) != a1_0) = false := bne_eq_false_iff_eq.mpr c72
                                          clear c72
                                          have H' := Aside0.mk H
                                          clear H
                                          have hnb73 := NB363_347.out
                                          have hnc73 := NB347_363.out
                                          have hcz74_0 : wc.cell? ⟨gb363, 0, none⟩ = some (.int .i64 ((rd_T27 l0 x63_3).f0.f0)) := (blk_cell BK363.out 0).trans rfl
                                          have hcz74_1 : wc.cell? ⟨gb363, 1, none⟩ = some (.int .i64 ((rd_T27 l0 x63_3).f0.f1)) := (blk_cell BK363.out 1).trans rfl
                                          have hcz74_2 : wc.cell? ⟨gb363, 2, none⟩ = some (.int .i64 ((rd_T27 l0 x63_3).f1.f0)) := (blk_cell BK363.out 2).trans rfl
                                          have hcz74_3 : wc.cell? ⟨gb363, 3, none⟩ = some (.int .i64 ((rd_T27 l0 x63_3).f1.f1)) := (blk_cell BK363.out 3).trans rfl
                                          have hcz74_4 : wc.cell? ⟨gb363, 4, none⟩ = some (.int .i64 ((rd_T27 l0 x63_3).f2)) := (blk_cell BK363.out 4).trans rfl
                                          have hcz74_5 : wc.cell? ⟨gb363, 5, none⟩ = some (.int .i64 ((rd_T27 l0 x63_3).f3)) := (blk_cell BK363.out 5).trans rfl
                                          have hcz74_6 : wc.cell? ⟨gb363, 6, none⟩ = some (.bool ((rd_T27 l0 x63_3).f4)) := (blk_cell BK363.out 6).trans rfl
                                          have hfz74_0 := blk_frozen BK363.out 0
                                          have hfz74_1 := blk_frozen BK363.out 1
                                          have hfz74_2 := blk_frozen BK363.out 2
                                          have hfz74_3 := blk_frozen BK363.out 3
                                          have hfz74_4 := blk_frozen BK363.out 4
                                          have hfz74_5 := blk_frozen BK363.out 5
                                          have hfz74_6 := blk_frozen BK363.out 6
                                          obtain ⟨Ao75, co75, eo75⟩ := Kd.R_slice HO_7.out
                                          subst eo75
                                          have p371 : 0 ≤ (x63_3 : Int) := of_decide_eq_true (by first | (with_reducible assumption) | assumption)
                                          have q371 : x63_3 < (t354.length : Int) := of_decide_eq_true (by first | (with_reducible assumption) | assumption)
                                          obtain ⟨ad371, e371, hx371_0, hx371_1, hx371_2, hx371_3, hx371_4⟩ := at_T104 (Kd.R_reads' HO_7.out).2.2 x63_3 p371 q371
                                          cases e371
                                          replace p371 := eq_true p371
                                          replace q371 := eq_true q371
                                          have p372 : 0 ≤ (x63_3 : Int) := of_decide_eq_true (by first | (with_reducible assumption) | assumption)
                                          have q372 : x63_3 < (t354.length : Int) := of_decide_eq_true (by first | (with_reducible assumption) | assumption)
                                          obtain ⟨ad372, e372, hx372_0, hx372_1, hx372_2, hx372_3, hx372_4⟩ := at_T104 (Kd.R_reads' HO_7.out).2.2 x63_3 p372 q372
                                          obtain rfl : ad371 = ad372 := (by injection e372)
                                          replace p372 := eq_true p372
                                          replace q372 := eq_true q372
                                          have hcz76_0 : wc.cell? ⟨gb347, 0, none⟩ = some (.int .i64 a1_0) := (blk_cell BK347.out 0).trans rfl
                                          have hcz76_1 : wc.cell? ⟨gb347, 1, none⟩ = some (.int .i64 a1_1) := (blk_cell BK347.out 1).trans rfl
                                          have hfz76_0 := blk_frozen BK347.out 0
                                          have hfz76_1 := blk_frozen BK347.out 1
                                          go_wp2
                                          repeat (go_quiet (fail); try go_wp2)
                                          go_roundg kj32
                                          case measure => have := HJ6.out; have := HJ22.out; have := HK3.out; have := HJ32.out; omega
                                          case rel => exact ⟨(wrap64 (x63_3 + 1)), (by first | rfl | (simp; done) | (simp [*]; done)), H', ⟨by have := HJ6.out; have := HJ22.out; have := HK3.out; have := HJ32.out; omega⟩, ⟨by (with_reducible repeat (first | apply Kd.R_alloc | apply Kd.R_drewN | apply Kd.R_drew)); exact HO_5.out⟩, ⟨by (with_reducible repeat (first | apply Kd.R_alloc | apply Kd.R_drewN | apply Kd.R_drew)); exact HO_7.out⟩, ⟨by (with_reducible repeat (first | refine blk_drewN ?_ _ | refine blk_drew ?_ | refine blk_alloc ?_ _)); exact BK347.out⟩, ⟨by repeat (first | (with_reducible first | exact HB.out | apply below_alloc | apply pw_below_drewN | apply below_drew1 | refine below_set ?_ GE347.out | refine below_set ?_ GE363.out) | exact HB.out)⟩⟩
                                        · rw [if_neg c72] at H
                                          have c72b0 : ((wrap64 (((rd_T104 t354 x63_3).f2.f0) - t364)) == a1_0) = false := beq_eq_false_iff_ne.mpr c72
                                          have c72b1 : ((wrap64 (((rd_T104 t354 x63_3).f2.f0) - t364)) != a1_0) = true := bne_iff_ne.mpr c72
                                          obtain rfl := Option.some.inj H
                                          have hnb77 := NB363_347.out
                                          have hnc77 := NB347_363.out
                                          have hcz78_0 : wc.cell? ⟨gb363, 0, none⟩ = some (.int .i64 ((rd_T27 l0 x63_3).f0.f0)) := (blk_cell BK363.out 0).trans rfl
                                          have hcz78_1 : wc.cell? ⟨gb363, 1, none⟩ = some (.int .i64 ((rd_T27 l0 x63_3).f0.f1)) := (blk_cell BK363.out 1).trans rfl
                                          have hcz78_2 : wc.cell? ⟨gb363, 2, none⟩ = some (.int .i64 ((rd_T27 l0 x63_3).f1.f0)) := (blk_cell BK363.out 2).trans rfl
                                          have hcz78_3 : wc.cell? ⟨gb363, 3, none⟩ = some (.int .i64 ((rd_T27 l0 x63_3).f1.f1)) := (blk_cell BK363.out 3).trans rfl
                                          have hcz78_4 : wc.cell? ⟨gb363, 4, none⟩ = some (.int .i64 ((rd_T27 l0 x63_3).f2)) := (blk_cell BK363.out 4).trans rfl
                                          have hcz78_5 : wc.cell? ⟨gb363, 5, none⟩ = some (.int .i64 ((rd_T27 l0 x63_3).f3)) := (blk_cell BK363.out 5).trans rfl
                                          have hcz78_6 : wc.cell? ⟨gb363, 6, none⟩ = some (.bool ((rd_T27 l0 x63_3).f4)) := (blk_cell BK363.out 6).trans rfl
                                          have hfz78_0 := blk_frozen BK363.out 0
                                          have hfz78_1 := blk_frozen BK363.out 1
                                          have hfz78_2 := blk_frozen BK363.out 2
                                          have hfz78_3 := blk_frozen BK363.out 3
                                          have hfz78_4 := blk_frozen BK363.out 4
                                          have hfz78_5 := blk_frozen BK363.out 5
                                          have hfz78_6 := blk_frozen BK363.out 6
                                          obtain ⟨Ao79, co79, eo79⟩ := Kd.R_slice HO_7.out
                                          subst eo79
                                          have p371 : 0 ≤ (x63_3 : Int) := of_decide_eq_true (by first | (with_reducible assumption) | assumption)
                                          have q371 : x63_3 < (t354.length : Int) := of_decide_eq_true (by first | (with_reducible assumption) | assumption)
                                          obtain ⟨ad371, e371, hx371_0, hx371_1, hx371_2, hx371_3, hx371_4⟩ := at_T104 (Kd.R_reads' HO_7.out).2.2 x63_3 p371 q371
                                          cases e371
                                          replace p371 := eq_true p371
                                          replace q371 := eq_true q371
                                          have p372 : 0 ≤ (x63_3 : Int) := of_decide_eq_true (by first | (with_reducible assumption) | assumption)
                                          have q372 : x63_3 < (t354.length : Int) := of_decide_eq_true (by first | (with_reducible assumption) | assumption)
                                          obtain ⟨ad372, e372, hx372_0, hx372_1, hx372_2, hx372_3, hx372_4⟩ := at_T104 (Kd.R_reads' HO_7.out).2.2 x63_3 p372 q372
                                          obtain rfl : ad371 = ad372 := (by injection e372)
                                          replace p372 := eq_true p372
                                          replace q372 := eq_true q372
                                          have hcz80_0 : wc.cell? ⟨gb347, 0, none⟩ = some (.int .i64 a1_0) := (blk_cell BK347.out 0).trans rfl
                                          have hcz80_1 : wc.cell? ⟨gb347, 1, none⟩ = some (.int .i64 a1_1) := (blk_cell BK347.out 1).trans rfl
                                          have hfz80_0 := blk_frozen BK347.out 0
                                          have hfz80_1 := blk_frozen BK347.out 1
                                          go_wp2
                                          repeat (go_quiet (fail); try go_wp2)
                                          go_ret
                                          exact ⟨by first | rfl | (simp [errW_none, errW_some] <;> rfl) | (simp [*, errW_none, errW_some] <;> rfl), by repeat (first | (with_reducible first | exact HB.out | apply below_alloc | apply pw_below_drewN | apply below_drew1 | refine below_set ?_ GE347.out | refine below_set ?_ GE363.out) | exact HB.out)⟩
                                    · rw [if_neg c67] at H
                                      exact absurd H (by simp)
                                  · rw [if_neg c66] at H
                                    exact absurd H (by simp)
                        · rw [if_neg c31] at H
                          exact absurd H (by simp)
                      · rw [if_neg c30] at H
                        exact absurd H (by simp)
                    · rw [if_neg c29] at H
                      have c29b0 : decide (x63_3 < (l0.length : Int)) = false := decide_eq_false c29
                      clear c29
                      replace H := Option.bind_eq_some_iff.mp H
                      obtain ⟨t361, A810, H⟩ := H
                      replace H : (some t361) = some r := H
                      have A81 := Aside0.mk A810
                      clear A810
                      obtain rfl := Option.some.inj H
                      go_wp2_with (first | (go_at_call 30; (with_reducible refine (metrolablaw47_awake.calls k3  t361 _ A81.out (by exact sig_below HS.out (by repeat (first | (with_reducible first | exact HB.out | apply below_alloc | apply pw_below_drewN | apply below_drew1 | refine below_set ?_ GE347.out | refine below_set ?_ GE363.out) | exact HB.out)))).mono ?_); rintro e w82 ⟨rfl, hb⟩; have n0_ := Aside0.mk (Kd.R_below (by (with_reducible repeat (first | apply Kd.R_alloc | apply Kd.R_drewN | apply Kd.R_drew)); exact HO_5.out) hb); have n1_ := Aside0.mk (Kd.R_below (by (with_reducible repeat (first | apply Kd.R_alloc | apply Kd.R_drewN | apply Kd.R_drew)); exact HO_7.out) hb); have n2_ := Aside0.mk (blk_below (g := gb347) (o := .cells #[.int .i64 a1_0, .int .i64 a1_1] 44 (0, 0)) (by (with_reducible repeat (first | refine blk_drewN ?_ _ | refine blk_drew ?_ | refine blk_alloc ?_ _)); exact BK347.out) hb); have n3_ := Aside0.mk (below_step (by repeat (first | (with_reducible first | exact HB.out | apply below_alloc | apply pw_below_drewN | apply below_drew1 | refine below_set ?_ GE347.out) | exact HB.out)) hb); clear HO_5; clear HO_7; clear BK347; clear HB; have HO_5 := n0_; have HO_7 := n1_; have BK347 := n2_; have HB := n3_; clear n0_ n1_ n2_ n3_; (try clear hb); (try clear hb2); (try clear hk); (try clear hi)))
                      repeat (go_quiet (first | (go_at_call 30; (with_reducible refine (metrolablaw47_awake.calls k3  t361 _ A81.out (by exact sig_below HS.out (by repeat (first | (with_reducible first | exact HB.out | apply below_alloc | apply pw_below_drewN | apply below_drew1 | refine below_set ?_ GE347.out | refine below_set ?_ GE363.out) | exact HB.out)))).mono ?_); rintro e w82 ⟨rfl, hb⟩; have n0_ := Aside0.mk (Kd.R_below (by (with_reducible repeat (first | apply Kd.R_alloc | apply Kd.R_drewN | apply Kd.R_drew)); exact HO_5.out) hb); have n1_ := Aside0.mk (Kd.R_below (by (with_reducible repeat (first | apply Kd.R_alloc | apply Kd.R_drewN | apply Kd.R_drew)); exact HO_7.out) hb); have n2_ := Aside0.mk (blk_below (g := gb347) (o := .cells #[.int .i64 a1_0, .int .i64 a1_1] 44 (0, 0)) (by (with_reducible repeat (first | refine blk_drewN ?_ _ | refine blk_drew ?_ | refine blk_alloc ?_ _)); exact BK347.out) hb); have n3_ := Aside0.mk (below_step (by repeat (first | (with_reducible first | exact HB.out | apply below_alloc | apply pw_below_drewN | apply below_drew1 | refine below_set ?_ GE347.out) | exact HB.out)) hb); clear HO_5; clear HO_7; clear BK347; clear HB; have HO_5 := n0_; have HO_7 := n1_; have BK347 := n2_; have HB := n3_; clear n0_ n1_ n2_ n3_; (try clear hb); (try clear hb2); (try clear hk); (try clear hi))); try go_wp2_with (first | (go_at_call 30; (with_reducible refine (metrolablaw47_awake.calls k3  t361 _ A81.out (by exact sig_below HS.out (by repeat (first | (with_reducible first | exact HB.out | apply below_alloc | apply pw_below_drewN | apply below_drew1 | refine below_set ?_ GE347.out | refine below_set ?_ GE363.out) | exact HB.out)))).mono ?_); rintro e w82 ⟨rfl, hb⟩; have n0_ := Aside0.mk (Kd.R_below (by (with_reducible repeat (first | apply Kd.R_alloc | apply Kd.R_drewN | apply Kd.R_drew)); exact HO_5.out) hb); have n1_ := Aside0.mk (Kd.R_below (by (with_reducible repeat (first | apply Kd.R_alloc | apply Kd.R_drewN | apply Kd.R_drew)); exact HO_7.out) hb); have n2_ := Aside0.mk (blk_below (g := gb347) (o := .cells #[.int .i64 a1_0, .int .i64 a1_1] 44 (0, 0)) (by (with_reducible repeat (first | refine blk_drewN ?_ _ | refine blk_drew ?_ | refine blk_alloc ?_ _)); exact BK347.out) hb); have n3_ := Aside0.mk (below_step (by repeat (first | (with_reducible first | exact HB.out | apply below_alloc | apply pw_below_drewN | apply below_drew1 | refine below_set ?_ GE347.out) | exact HB.out)) hb); clear HO_5; clear HO_7; clear BK347; clear HB; have HO_5 := n0_; have HO_7 := n1_; have BK347 := n2_; have HB := n3_; clear n0_ n1_ n2_ n3_; (try clear hb); (try clear hb2); (try clear hk); (try clear hi))))
                      go_ret
                      exact ⟨by first | rfl | (simp [errW_none, errW_some] <;> rfl) | (simp [*, errW_none, errW_some] <;> rfl), by repeat (first | (with_reducible first | exact HB.out | apply below_alloc | apply pw_below_drewN | apply below_drew1 | refine below_set ?_ GE347.out) | exact HB.out)⟩
  · replace c4 := Bool.eq_false_iff.mpr c4
    subst c4
    have H1 : ((metrolablaw47_awake.f k).bind fun t349 => (some t349)) = some r := by rw [if_neg (show ¬ (false = true) by decide)] at H; exact H
    clear H
    have H := H1
    clear H1
    replace H := Option.bind_eq_some_iff.mp H
    obtain ⟨t349, A830, H⟩ := H
    replace H : (some t349) = some r := H
    have A83 := Aside0.mk A830
    clear A830
    obtain rfl := Option.some.inj H
    go_enter Tryd.func16, Tryd.ntmps16
    go_wp2_with (first | ((with_reducible refine gate_dst (N := 3) rfl ?_); (try (refine gate_guard (by rfl) ?_; dsimp only)); refine box_event ?hg (N := 3) ?hd (cs := #[.int .i64 a1_0, .int .i64 a1_1]) (t := 44) ?hr ?_; (case hd => rfl); (case hg => rfl); (case hr => first | (go_simp; done) | (go_simp; rfl)); intro gb347 hg w84 hbox hb; have n0_ := Aside0.mk (below_step (by repeat (first | (with_reducible first | exact HB.out | apply below_alloc | apply pw_below_drewN | apply below_drew1) | exact HB.out)) hb); have n1_ := Aside0.mk (hbox); have n2_ := Aside0.mk ((by rw [hg]; exact (below_size (by repeat (first | (with_reducible first | exact HB.out | apply below_alloc | apply pw_below_drewN | apply below_drew1) | exact HB.out))) : w.heap.size ≤ gb347)); have n3_ := Aside0.mk ((by rw [hg]; exact (below_size (by repeat (first | (with_reducible first | exact HB.out | apply below_alloc | apply pw_below_drewN | apply below_drew1) | exact HB.out))) : w.heap.size ≤ gb347)); clear HB; have HB := n0_; have BK347 := n1_; have GW347 := n2_; have GE347 := n3_; clear n0_ n1_ n2_ n3_; clear hb hbox hg) | (go_at_call 29; (with_reducible refine (metrolablaw47_few.calls _ _ l0 false _ ?side1 ?side2 A3.out).mono ?_); (case side1 => repeat (first | exact (Kd.C_below HR0.out HB.out) | (with_reducible refine Kd.C_alloc ?_ _) | (with_reducible refine Kd.C_drewN ?_ _) | (with_reducible refine Kd.C_drew ?_))); (case side2 => exact HC0.out); rintro e w' ⟨rfl, ⟨nd, rfl⟩⟩; (try first | exact ⟨rfl, _, World.drewN_drewN _ _ _⟩ | exact ⟨rfl, _, Eq.trans (World.drewN_drewN _ _ _) (congrArg (World.drewN _) (Nat.add_assoc _ _ _))⟩)) | (go_at_call 30; (with_reducible refine (metrolablaw47_awake.calls k  t349 _ A83.out (by exact sig_below HS.out (by repeat (first | (with_reducible first | exact HB.out | apply below_alloc | apply pw_below_drewN | apply below_drew1 | refine below_set ?_ GE347.out | refine below_set ?_ GE363.out) | exact HB.out)))).mono ?_); rintro e w85 ⟨rfl, hb⟩; have n0_ := Aside0.mk (blk_below (g := gb347) (o := .cells #[.int .i64 a1_0, .int .i64 a1_1] 44 (0, 0)) (by (with_reducible repeat (first | refine blk_drewN ?_ _ | refine blk_drew ?_ | refine blk_alloc ?_ _)); exact BK347.out) hb); have n1_ := Aside0.mk (below_step (by repeat (first | (with_reducible first | exact HB.out | apply below_alloc | apply pw_below_drewN | apply below_drew1 | refine below_set ?_ GE347.out) | exact HB.out)) hb); clear BK347; clear HB; have BK347 := n0_; have HB := n1_; clear n0_ n1_; (try clear hb); (try clear hb2); (try clear hk); (try clear hi)))
    repeat (go_quiet (first | ((with_reducible refine gate_dst (N := 3) rfl ?_); (try (refine gate_guard (by rfl) ?_; dsimp only)); refine box_event ?hg (N := 3) ?hd (cs := #[.int .i64 a1_0, .int .i64 a1_1]) (t := 44) ?hr ?_; (case hd => rfl); (case hg => rfl); (case hr => first | (go_simp; done) | (go_simp; rfl)); intro gb347 hg w84 hbox hb; have n0_ := Aside0.mk (below_step (by repeat (first | (with_reducible first | exact HB.out | apply below_alloc | apply pw_below_drewN | apply below_drew1) | exact HB.out)) hb); have n1_ := Aside0.mk (hbox); have n2_ := Aside0.mk ((by rw [hg]; exact (below_size (by repeat (first | (with_reducible first | exact HB.out | apply below_alloc | apply pw_below_drewN | apply below_drew1) | exact HB.out))) : w.heap.size ≤ gb347)); have n3_ := Aside0.mk ((by rw [hg]; exact (below_size (by repeat (first | (with_reducible first | exact HB.out | apply below_alloc | apply pw_below_drewN | apply below_drew1) | exact HB.out))) : w.heap.size ≤ gb347)); clear HB; have HB := n0_; have BK347 := n1_; have GW347 := n2_; have GE347 := n3_; clear n0_ n1_ n2_ n3_; clear hb hbox hg) | (go_at_call 29; (with_reducible refine (metrolablaw47_few.calls _ _ l0 false _ ?side1 ?side2 A3.out).mono ?_); (case side1 => repeat (first | exact (Kd.C_below HR0.out HB.out) | (with_reducible refine Kd.C_alloc ?_ _) | (with_reducible refine Kd.C_drewN ?_ _) | (with_reducible refine Kd.C_drew ?_))); (case side2 => exact HC0.out); rintro e w' ⟨rfl, ⟨nd, rfl⟩⟩; (try first | exact ⟨rfl, _, World.drewN_drewN _ _ _⟩ | exact ⟨rfl, _, Eq.trans (World.drewN_drewN _ _ _) (congrArg (World.drewN _) (Nat.add_assoc _ _ _))⟩)) | (go_at_call 30; (with_reducible refine (metrolablaw47_awake.calls k  t349 _ A83.out (by exact sig_below HS.out (by repeat (first | (with_reducible first | exact HB.out | apply below_alloc | apply pw_below_drewN | apply below_drew1 | refine below_set ?_ GE347.out) | exact HB.out)))).mono ?_); rintro e w85 ⟨rfl, hb⟩; have n0_ := Aside0.mk (blk_below (g := gb347) (o := .cells #[.int .i64 a1_0, .int .i64 a1_1] 44 (0, 0)) (by (with_reducible repeat (first | refine blk_drewN ?_ _ | refine blk_drew ?_ | refine blk_alloc ?_ _)); exact BK347.out) hb); have n1_ := Aside0.mk (below_step (by repeat (first | (with_reducible first | exact HB.out | apply below_alloc | apply pw_below_drewN | apply below_drew1 | refine below_set ?_ GE347.out) | exact HB.out)) hb); clear BK347; clear HB; have BK347 := n0_; have HB := n1_; clear n0_ n1_; (try clear hb); (try clear hb2); (try clear hk); (try clear hi))); try go_wp2_with (first | ((with_reducible refine gate_dst (N := 3) rfl ?_); (try (refine gate_guard (by rfl) ?_; dsimp only)); refine box_event ?hg (N := 3) ?hd (cs := #[.int .i64 a1_0, .int .i64 a1_1]) (t := 44) ?hr ?_; (case hd => rfl); (case hg => rfl); (case hr => first | (go_simp; done) | (go_simp; rfl)); intro gb347 hg w84 hbox hb; have n0_ := Aside0.mk (below_step (by repeat (first | (with_reducible first | exact HB.out | apply below_alloc | apply pw_below_drewN | apply below_drew1) | exact HB.out)) hb); have n1_ := Aside0.mk (hbox); have n2_ := Aside0.mk ((by rw [hg]; exact (below_size (by repeat (first | (with_reducible first | exact HB.out | apply below_alloc | apply pw_below_drewN | apply below_drew1) | exact HB.out))) : w.heap.size ≤ gb347)); have n3_ := Aside0.mk ((by rw [hg]; exact (below_size (by repeat (first | (with_reducible first | exact HB.out | apply below_alloc | apply pw_below_drewN | apply below_drew1) | exact HB.out))) : w.heap.size ≤ gb347)); clear HB; have HB := n0_; have BK347 := n1_; have GW347 := n2_; have GE347 := n3_; clear n0_ n1_ n2_ n3_; clear hb hbox hg) | (go_at_call 29; (with_reducible refine (metrolablaw47_few.calls _ _ l0 false _ ?side1 ?side2 A3.out).mono ?_); (case side1 => repeat (first | exact (Kd.C_below HR0.out HB.out) | (with_reducible refine Kd.C_alloc ?_ _) | (with_reducible refine Kd.C_drewN ?_ _) | (with_reducible refine Kd.C_drew ?_))); (case side2 => exact HC0.out); rintro e w' ⟨rfl, ⟨nd, rfl⟩⟩; (try first | exact ⟨rfl, _, World.drewN_drewN _ _ _⟩ | exact ⟨rfl, _, Eq.trans (World.drewN_drewN _ _ _) (congrArg (World.drewN _) (Nat.add_assoc _ _ _))⟩)) | (go_at_call 30; (with_reducible refine (metrolablaw47_awake.calls k  t349 _ A83.out (by exact sig_below HS.out (by repeat (first | (with_reducible first | exact HB.out | apply below_alloc | apply pw_below_drewN | apply below_drew1 | refine below_set ?_ GE347.out) | exact HB.out)))).mono ?_); rintro e w85 ⟨rfl, hb⟩; have n0_ := Aside0.mk (blk_below (g := gb347) (o := .cells #[.int .i64 a1_0, .int .i64 a1_1] 44 (0, 0)) (by (with_reducible repeat (first | refine blk_drewN ?_ _ | refine blk_drew ?_ | refine blk_alloc ?_ _)); exact BK347.out) hb); have n1_ := Aside0.mk (below_step (by repeat (first | (with_reducible first | exact HB.out | apply below_alloc | apply pw_below_drewN | apply below_drew1 | refine below_set ?_ GE347.out) | exact HB.out)) hb); clear BK347; clear HB; have BK347 := n0_; have HB := n1_; clear n0_ n1_; (try clear hb); (try clear hb2); (try clear hk); (try clear hi))))
    go_ret
    exact ⟨by first | rfl | (simp [errW_none, errW_some] <;> rfl) | (simp [*, errW_none, errW_some] <;> rfl), by repeat (first | (with_reducible first | exact HB.out | apply below_alloc | apply pw_below_drewN | apply below_drew1 | refine below_set ?_ GE347.out) | exact HB.out)⟩
end Go.Proofs.YtjemaonejkepcaaDoor.G
namespace Go.Proofs.YtjemaonejkepcaaDoor.G
open Go.Proofs.YtjemaonejkepcaaDoor.B
open Go.RowKit Go.Proofs.YtjemaonejkepcaaDoorW.PrintWords
theorem de_at (W M : Int) (l : List S27) {i : Int} (h0 : 0 ≤ i) (h1 : i < (l.length : Int)) : rd_T104 (l.map (de W M)) i = de W M (rd_T27 l i) :=
  getD_map (de W M) l z27 z104 (by omega)
theorem narrows_l0 {W M : Int} (hW : 0 ≤ W ∧ W ≤ 100000) (hM : 0 ≤ M ∧ M ≤ 100000) (l : List S27) (hn : l.length ≤ 1000) (hl : ∀ t ∈ l, te t = 0) (d : Nat) : ∀ (k : Nat) (i : Int), 0 ≤ i → (l.length : Int) - i = d → 2 * d + 70 ≤ k →
    metrolablaw47_GaugeNarrows.l0 k (l.map (de 0 0)) (l.map (de W M)) l (l.length : Int) i W M = some true := by
  induction d with
  | zero =>
    intro k i h0 hd hk
    obtain ⟨k, rfl⟩ : ∃ m, k = m + 1 := ⟨k - 1, by omega⟩
    simp only [metrolablaw47_GaugeNarrows.l0]
    rw [if_neg (by omega), awake_ok k (by omega)]; rfl
  | succ d ih =>
    intro k i h0 hd hk
    obtain ⟨k, rfl⟩ : ∃ m, k = m + 2 := ⟨k - 2, by omega⟩
    have h1 : i < (l.length : Int) := by omega
    have hdr : l.drop i.toNat = rd_T27 l i :: l.drop (i + 1).toNat := drop_rd l z27 h0 h1
    have hm : te (rd_T27 l i) = 0 := hl _ (List.mem_of_mem_drop (by rw [hdr]; exact List.mem_cons_self))
    have hv := tv_range hm
    have hn0 : i < ((l.map (de 0 0)).length : Int) := by simpa using h1
    have hn1 : i < ((l.map (de W M)).length : Int) := by simpa using h1
    simp only [metrolablaw47_GaugeNarrows.l0]
    rw [if_pos h1, if_pos h0, if_pos h1, virtual_ok (k + 1) (by omega) (te_ok hm).1]
    simp only [Option.bind_some, if_true]
    rw [if_pos hn0, de_at 0 0 l h0 h1]
    have hD := de_at W M l h0 h1
    have hih := ih k (i + 1) (by omega) (by omega) (by omega)
    generalize rd_T27 l i = t at *
    rw [show vir t.f1.f0 t.f1.f1 t.f2 t.f3 t.f4 = tv t from rfl]
    cases hp : t.f4 with
    | true =>
      have e0 : de 0 0 t = ⟨⟨t.f0.f0, t.f0.f1⟩, true, ⟨tv t - 0 - 0, tv t - 0⟩⟩ := by unfold de; rw [if_pos hp]
      have e1 : de W M t = ⟨⟨t.f0.f0, t.f0.f1⟩, true, ⟨tv t - W - M, tv t - W⟩⟩ := by unfold de; rw [if_pos hp]
      rw [e0]
      simp only [Int.sub_zero, beq_self_eq_true, Bool.not_true, Bool.or_self, Bool.false_eq_true, if_false, bne_self_eq_false]
      simp only [metrolablaw47_GaugeNarrows.j3]
      simp only [Bool.false_eq_true, if_false, if_true]
      rw [if_pos h0, if_pos hn1, hD, e1]
      simp only
      rw [if_neg (by omega), show tv t - (tv t - W) = W by omega, w64 (n := W) (by omega), if_pos rfl, up64 h0 (by omega)]
      exact hih
    | false =>
      have e0 : de 0 0 t = ⟨⟨t.f0.f0, t.f0.f1⟩, false, ⟨tv t + 0, tv t + 0 + 0⟩⟩ := by unfold de; rw [hp, if_neg Bool.false_ne_true]
      have e1 : de W M t = ⟨⟨t.f0.f0, t.f0.f1⟩, false, ⟨tv t + W, tv t + W + M⟩⟩ := by unfold de; rw [hp, if_neg Bool.false_ne_true]
      rw [e0]
      simp only [Int.add_zero, beq_self_eq_true, Bool.not_true, Bool.or_self, Bool.false_eq_true, if_false, bne_self_eq_false]
      simp only [metrolablaw47_GaugeNarrows.j3]
      simp only [Bool.false_eq_true, if_false, if_true]
      rw [if_pos h0, if_pos hn1, hD, e1]
      simp only
      rw [if_neg (by omega), show tv t + W - tv t = W by omega, w64 (n := W) (by omega), if_pos rfl, up64 h0 (by omega)]
      exact hih
theorem tv_pos {t : S27} (h : te t = 0) : 1 ≤ tv t := by
  obtain ⟨⟨h1, h2, h3, h4, h5, h6, h7, h8, h9⟩, hm⟩ := te_ok h
  unfold tv vir
  rw [hm]
  cases hp : t.f4 with
  | true => simp; omega
  | false => simp; have := h8 hp; omega
theorem low_zero : ∀ l : List S27, (∀ t ∈ l, te t = 0) → lowOk 0 0 l = true
  | [], _ => rfl
  | t :: r, h => by
    rw [low_ok]
    · exact low_zero r (fun u hu => h u (List.mem_cons_of_mem _ hu))
    · have := tv_pos (h t List.mem_cons_self)
      unfold de
      cases hp : t.f4 <;> simp <;> omega
theorem dz_zero (l : List S27) : dz 0 0 l = ce l := by
  unfold dz
  by_cases hc : ce l = 0
  · rw [if_pos hc, if_pos (by omega), if_pos (low_zero l (ce_ok hc).2.2), hc]
  · rw [if_neg hc]
theorem dz_cases (W M : Int) (l : List S27) (hc : ce l = 0) : dz W M l = 0 ∧ (0 ≤ W ∧ W ≤ 100000 ∧ 0 ≤ M ∧ M ≤ 100000) ∧ lowOk W M l = true ∨ dz W M l = 14 ∨ dz W M l = 2 := by
  unfold dz
  rw [if_pos hc]
  by_cases hr : 0 ≤ W ∧ W ≤ 100000 ∧ 0 ≤ M ∧ M ≤ 100000
  · rw [if_pos hr]
    by_cases hf : lowOk W M l = true
    · rw [if_pos hf]; exact Or.inl ⟨rfl, hr, hf⟩
    · rw [if_neg hf]; exact Or.inr (Or.inl rfl)
  · rw [if_neg hr]; exact Or.inr (Or.inr rfl)
theorem narrows_pure (l : List S27) (W M : Int) : ∃ k, metrolablaw47_GaugeNarrows.f k l W M = some true := by
  refine ⟨3000, ?_⟩
  unfold metrolablaw47_GaugeNarrows.f
  simp only [metrolablaw47_few.f, Option.bind_some, decide_eq_true_eq]
  by_cases hn : (l.length : Int) ≤ 32
  · rw [if_pos hn, gdesign 3000 (by omega), gdesign 3000 (by omega)]
    simp only [Option.bind_some]
    rw [dz_zero]
    by_cases hc : ce l = 0
    · rw [if_pos hc]
      have hlen := (ce_ok hc).2.1
      rcases dz_cases W M l hc with ⟨hd, hr, _⟩ | hd | hd
      · rw [hd]
        simp only [metrolablaw47_GaugeNarrows.j0, metrolablaw47_GaugeNarrows.j1, if_true, List.length_map, bne_self_eq_false, Bool.false_eq_true, if_false]
        simp only [hc, if_true]
        rw [if_pos (by simp)]
        exact narrows_l0 ⟨hr.1, hr.2.1⟩ hr.2.2 l (by omega) (ce_ok hc).2.2 l.length 2998 0 (by omega) (by omega) (by omega)
      · rw [hd, hc]
        simp [metrolablaw47_GaugeNarrows.j0]
        exact awake_ok _ (by omega)
      · rw [hd, hc]
        simp [metrolablaw47_GaugeNarrows.j0]
        exact awake_ok _ (by omega)
    · have hd : dz W M l = ce l := by unfold dz; rw [if_neg hc]
      rw [if_neg hc, hd]
      simp only [metrolablaw47_GaugeNarrows.j0, if_true]
      rw [awake_ok 2999 (by omega)]; rfl
  · rw [if_neg hn, awake_ok 3000 (by omega)]; rfl
end Go.Proofs.YtjemaonejkepcaaDoor.G
