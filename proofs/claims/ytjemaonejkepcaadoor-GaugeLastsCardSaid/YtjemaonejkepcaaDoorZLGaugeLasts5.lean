/- Texts of the law GaugeLasts, laid together by a program of this session; what is not reached is cut. In it: words that the kit's print.sh printed, contracts of Go functions printed over the kit's printer, our own laws. Not trusted: Lean checks them. -/
import Derived.Test.YtjemaonejkepcaaDoorZLGaugeLasts4
import Derived.Deep.RegionWith
import Derived.OpenShut
namespace Go.Proofs.YtjemaonejkepcaaDoor.G
open Go.Proofs.YtjemaonejkepcaaDoor.B
open Go.RowKit Go.Proofs.YtjemaonejkepcaaDoorW.PrintWords Go.Proofs.YtjemaonejkepcaaDoorW.PrintLast Go.Proofs.YtjemaonejkepcaaDoorW.PrintMore
attribute [local go_sem] max2_int min2_int max_two min_two max_three min_three max_four min_four   -- for this text's walks alone
set_option linter.unusedVariables false
set_option linter.unusedSimpArgs false
theorem worn_at {k : Nat} {A0 : Option Addr} {c0 : Nat} {l0 : List S27} {A1 : Option Addr} {c1 : Nat} {l1 : List S56} {r1 : List Int} {r2 : Int} {w : World} (n : Nat) (hn : l1.length = n) (hr0 : Kd.C k27 w A0 l0.length l0) (hc0 : l0.length ≤ c0) (hr1 : Kd.C k56 w A1 l1.length l1) (hc1 : n ≤ c1) (h : gauge_Worn.f k l0 l1 = some (r1, r2)) (hS : SignsAt w) :
    Calls Tryd.prog 36 #[.slice A0 l0.length c0, .slice A1 n c1] w fun e w' => ∃ v0_ : Value, e = .returned (.tuple #[v0_, .int .i64 r2]) ∧ Kd.R (Kd.int .i64) 3 w' w.heap.size (fun _ => True) v0_ r1 ∧ Below w.heap.size w w' := by
  subst hn
  exact gauge_Worn.calls k A0 c0 l0 A1 c1 l1 r1 r2 w hr0 hc0 hr1 hc1 h hS
theorem find_at {k : Nat} {A0 : Option Addr} {c0 : Nat} {l0 : List S56} {r : Bool} {w : World} (n : Nat) (hn : l0.length = n) (hr0 : Kd.C k56 w A0 l0.length l0) (hc0 : n ≤ c0) (h : gauge_Tool_37.f k l0 = some r) :
    Calls Tryd.prog 37 #[.slice A0 n c0, .func (.func 38) #[] #[]] w fun e w' => e = .returned (.bool r) ∧ Below w.heap.size w w' := by
  subst hn
  exact gauge_Tool_37.calls k A0 c0 l0 r w hr0 hc0 h
theorem pins_at {k : Nat} {A0 : Option Addr} {c0 : Nat} {l0 : List S56} {r : Int} {w : World} (n : Nat) (hn : l0.length = n) (hr0 : Kd.C k56 w A0 l0.length l0) (hc0 : n ≤ c0) (h : metrolablaw47_pins.f k l0 = some r) :
    Calls Tryd.prog 41 #[.slice A0 n c0] w fun e w' => e = .returned (.int .i64 r) ∧ Below w.heap.size w w' := by
  subst hn
  exact metrolablaw47_pins.calls k A0 c0 l0 r w hr0 hc0 h
theorem hole_at (xs : List S56) (gm : Nat) (A : Option Addr) (c n : Nat) (hn : xs.length = n) {k : Nat} {A0 : Option Addr} {c0 : Nat} {l0 : List Int} {r : Bool} {w : World} (hr0 : Kd.C (Kd.int .i64) w A0 l0.length l0) (hc0 : l0.length ≤ c0) (h : @slices_ContainsFunc_int_int.f (Dat40.mk xs) k l0 = some r) (hs : w.heap[gm]? = some (.cells #[.slice A n c] 52 (0, 0))) (hC : Kd.C k56 w A xs.length xs) :
    Calls Tryd.prog 39 #[.slice A0 l0.length c0, .func (.func 40) #[] #[.pointer (some ⟨gm, 0, none⟩)]] w fun e w' => e = .returned (.bool r) ∧ Below w.heap.size w w' := by
  subst hn
  exact @slices_ContainsFunc_int_int.calls (Dat40.mk xs) (Adr40.mk gm A c) k A0 c0 l0 r w hr0 hc0 h ⟨hs, hC⟩
theorem V_size {x : S56} {W : Int} (hx : -400000 ≤ x.f2 ∧ x.f2 ≤ 400000) (hW : 0 ≤ W ∧ W ≤ 100000) (hf : x.f1 = false) : withSize x (IntKind.i64.wrap (x.f2 - IntKind.i64.wrap (W + 1))) = V W x := by
  unfold V
  rw [hf, if_neg (by decide)]
  congr 1
  rw [i64_w, i64_w, w64 (n := W + 1) (by omega), w64 (by omega)]
theorem idxs_len16 {l : List S27} (h : l.length ≤ 16) : (idxs 0 (l.map (fun t => !t.f4))).length ≤ 16 := by
  have h1 := idxs_cnt (l.map (fun t => !t.f4)) 0
  have h2 := cnt_range (l.map (fun t => !t.f4))
  rw [List.length_map] at h2
  omega
set_option maxHeartbeats 8000000 in
set_option maxRecDepth 100000 in
theorem lasts_many (A0 : Option Addr) (c0 : Nat) (l : List S27) (W M : Int) (by_ : Int) (w : World) (hr0 : Kd.C k27 w A0 l.length l) (hc0 : l.length ≤ c0) (hS : SignsAt w) (hn : ¬ (l.length : Int) ≤ 32) :
    Calls Tryd.prog 6 #[.slice A0 l.length c0, .agg #[.int .i64 W, .int .i64 M], .int .u16 by_] w fun e w' => e = .returned (.bool true) ∧ Below w.heap.size w w' := by
  have hu44 := Tryd.underlying44
  have HR0 := Aside0.mk hr0
  have HC0 := Aside0.mk hc0
  have HS := Aside0.mk hS
  have HB := Aside0.mk (Below.refl w.heap.size w)
  clear hr0 hc0 hS
  have AF := Aside0.mk (show metrolablaw47_few.f l = some false by unfold metrolablaw47_few.f; rw [decide_eq_false hn])
  clear hn
  go_enter Tryd.func6, Tryd.ntmps6
  go_wp2_with (first
    | ((with_reducible refine gate_dst (N := 4) rfl ?_); refine box_event ?hg (N := 4) ?hd (cs := #[.int .i64 W, .int .i64 M]) (t := 44) ?hr ?_; (case hd => rfl); (case hg => rfl); (case hr => first | (go_simp; done) | (go_simp; rfl)); intro g4 hg w_ hbox hb; have GEg4 := Aside0.mk (by rw [hg]; exact below_size (by repeat (first | (with_reducible first | exact HB.out | apply below_alloc | apply pw_below_drewN | apply below_drew1) | exact HB.out)) : w.heap.size ≤ g4); have nHB_ := Aside0.mk (below_step (by repeat (first | (with_reducible first | exact HB.out | apply below_alloc | apply pw_below_drewN | apply below_drew1) | exact HB.out)) hb); clear HB ; have HB := nHB_; clear nHB_; have B4 := Aside0.mk hbox; clear hg hbox hb)
    | (go_at_call 29; (with_reducible refine (metrolablaw47_few.calls _ _ l false _ ?side1 ?side2 AF.out).mono ?_); (case side1 => repeat (first | exact (Kd.C_below HR0.out HB.out) | (with_reducible refine Kd.C_alloc ?_ _) | (with_reducible refine Kd.C_drewN ?_ _) | (with_reducible refine Kd.C_drew ?_))); (case side2 => exact HC0.out); rintro e w_ ⟨rfl, ⟨nd, rfl⟩⟩)
    | (go_at_call 30; (with_reducible refine (metrolablaw47_awake.calls 60 true _ awake_60 (by exact sig_below HS.out (by repeat (first | (with_reducible first | exact HB.out | apply below_alloc | apply pw_below_drewN | apply below_drew1) | exact HB.out)))).mono ?_); rintro e w_ ⟨rfl, hb⟩; have nHB_ := Aside0.mk (below_step (by repeat (first | (with_reducible first | exact HB.out | apply below_alloc | apply pw_below_drewN | apply below_drew1) | exact HB.out)) hb); clear HB ; have HB := nHB_; clear nHB_; clear hb))
  go_ret
  exact ⟨rfl, by repeat (first | (with_reducible first | exact HB.out | apply below_alloc | apply pw_below_drewN | apply below_drew1) | exact HB.out)⟩
set_option maxHeartbeats 8000000 in
set_option maxRecDepth 100000 in
theorem lasts_none (A0 : Option Addr) (c0 : Nat) (l : List S27) (W M : Int) (by_ : Int) (w : World) (hr0 : Kd.C k27 w A0 l.length l) (hc0 : l.length ≤ c0) (hS : SignsAt w) (hn : (l.length : Int) ≤ 32) (hd : dz W M l ≠ 0) :
    Calls Tryd.prog 6 #[.slice A0 l.length c0, .agg #[.int .i64 W, .int .i64 M], .int .u16 by_] w fun e w' => e = .returned (.bool true) ∧ Below w.heap.size w w' := by
  have hu44 := Tryd.underlying44
  have HR0 := Aside0.mk hr0
  have HC0 := Aside0.mk hc0
  have HS := Aside0.mk hS
  have HB := Aside0.mk (Below.refl w.heap.size w)
  clear hr0 hc0 hS
  have AF := Aside0.mk (show metrolablaw47_few.f l = some true by unfold metrolablaw47_few.f; rw [decide_eq_true hn])
  have AD := Aside0.mk (show gauge_Design.f 60 l W M = some ([], dz W M l) by rw [gdesign 60 (by omega), if_neg hd])
  have hd1 : (dz W M l != 0) = true := bne_iff_ne.mpr hd
  clear hn hd
  generalize dz W M l = z at *
  go_enter Tryd.func6, Tryd.ntmps6
  go_upto_region 5 with (first
    | ((with_reducible refine gate_dst (N := 4) rfl ?_); refine box_event ?hg (N := 4) ?hd (cs := #[.int .i64 W, .int .i64 M]) (t := 44) ?hr ?_; (case hd => rfl); (case hg => rfl); (case hr => first | (go_simp; done) | (go_simp; rfl)); intro g4 hg w_ hbox hb; have GEg4 := Aside0.mk (by rw [hg]; exact below_size (by repeat (first | (with_reducible first | exact HB.out | apply below_alloc | apply pw_below_drewN | apply below_drew1) | exact HB.out)) : w.heap.size ≤ g4); have nHB_ := Aside0.mk (below_step (by repeat (first | (with_reducible first | exact HB.out | apply below_alloc | apply pw_below_drewN | apply below_drew1) | exact HB.out)) hb); clear HB ; have HB := nHB_; clear nHB_; have B4 := Aside0.mk hbox; clear hg hbox hb; have m0 : w_.cell? ⟨g4, 0, none⟩ = some (.int .i64 W) := (blk_cell B4.out 0).trans rfl; have m1 : w_.cell? ⟨g4, 1, none⟩ = some (.int .i64 M) := (blk_cell B4.out 1).trans rfl)
    | (go_at_call 29; (with_reducible refine (metrolablaw47_few.calls _ _ l true _ ?side1 ?side2 AF.out).mono ?_); (case side1 => repeat (first | exact (Kd.C_below HR0.out HB.out) | (with_reducible refine Kd.C_alloc ?_ _) | (with_reducible refine Kd.C_drewN ?_ _) | (with_reducible refine Kd.C_drew ?_))); (case side2 => exact HC0.out); rintro e w_ ⟨rfl, ⟨nd, rfl⟩⟩)
    | (go_at_call 31; (with_reducible refine (gauge_Design.calls 60 _ _ l W M ([] : List S104) z _ ?side1 ?side2 AD.out (by exact sig_below HS.out (by repeat (first | (with_reducible first | exact HB.out | apply below_alloc | apply pw_below_drewN | apply below_drew1) | exact HB.out)))).mono ?_); (case side1 => repeat (first | exact (Kd.C_below HR0.out HB.out) | (with_reducible refine Kd.C_alloc ?_ _) | (with_reducible refine Kd.C_drewN ?_ _) | (with_reducible refine Kd.C_drew ?_))); (case side2 => exact HC0.out); rintro e w_ ⟨v_, rfl, ho0, hb⟩; have nR_ := Aside0.mk (Kd.R_lower ho0 (below_size (by repeat (first | (with_reducible first | exact HB.out | apply below_alloc | apply pw_below_drewN | apply below_drew1) | exact HB.out)))); have nB4_ := Aside0.mk (blk_below (by (with_reducible repeat (first | refine blk_drewN ?_ _ | refine blk_drew ?_ | refine blk_alloc ?_ _)); exact B4.out) hb); have nHB_ := Aside0.mk (below_step (by repeat (first | (with_reducible first | exact HB.out | apply below_alloc | apply pw_below_drewN | apply below_drew1) | exact HB.out)) hb); clear HB B4; have HB := nHB_; have B4 := nB4_; clear nB4_; clear nHB_; have HG := nR_; clear nR_ ho0 hb))
  obtain ⟨A, c, rfl⟩ := Kd.R_slice HG.out
  go_wp2_with (first | (go_at_call 30; (with_reducible refine (metrolablaw47_awake.calls 60 true _ awake_60 (by exact sig_below HS.out (by repeat (first | (with_reducible first | exact HB.out | apply below_alloc | apply pw_below_drewN | apply below_drew1) | exact HB.out)))).mono ?_); rintro e w_ ⟨rfl, hb⟩; have nHB_ := Aside0.mk (below_step (by repeat (first | (with_reducible first | exact HB.out | apply below_alloc | apply pw_below_drewN | apply below_drew1) | exact HB.out)) hb); clear HB ; have HB := nHB_; clear nHB_; clear hb))
  go_ret
  exact ⟨rfl, by repeat (first | (with_reducible first | exact HB.out | apply below_alloc | apply pw_below_drewN | apply below_drew1) | exact HB.out)⟩
set_option maxHeartbeats 8000000 in
set_option maxRecDepth 100000 in
theorem lasts_some (A0 : Option Addr) (c0 : Nat) (l : List S27) (W M : Int) (by_ : Int) (w : World) (hr0 : Kd.C k27 w A0 l.length l) (hc0 : l.length ≤ c0) (hS : SignsAt w) (hn : (l.length : Int) ≤ 32) (hd : dz W M l = 0) (hby : 0 ≤ by_ ∧ by_ ≤ 65535) :
    Calls Tryd.prog 6 #[.slice A0 l.length c0, .agg #[.int .i64 W, .int .i64 M], .int .u16 by_] w fun e w' => e = .returned (.bool true) ∧ Below w.heap.size w w' := by
  have hu44 := Tryd.underlying44
  have HR0 := Aside0.mk hr0
  have HC0 := Aside0.mk hc0
  have HS := Aside0.mk hS
  have HB := Aside0.mk (Below.refl w.heap.size w)
  clear hr0 hc0 hS
  have AF := Aside0.mk (show metrolablaw47_few.f l = some true by unfold metrolablaw47_few.f; rw [decide_eq_true hn])
  obtain ⟨G, hG⟩ : ∃ G, G = l.map (de W M) := ⟨_, rfl⟩
  have AD := Aside0.mk (show gauge_Design.f 60 l W M = some (G, 0) by rw [gdesign 60 (by omega), if_pos hd, hd, hG])
  have AL := Aside0.mk (show gauge_Loss.f 60 l G = some (W + M, 0) by rw [gloss 60 (by omega), hG, (lasts_loss hd).1, (lasts_loss hd).2])
  have AS := Aside0.mk (show gauge_Safe.f 60 l G = some 0 by rw [gsafe 60 (by omega), hG, (lasts_loss hd).1])
  obtain ⟨hc, hW, hM, hL⟩ := dz_ok hd
  obtain ⟨hn1, hn2, hl⟩ := ce_ok hc
  have hwm : wrap64 (W + M) = W + M := w64 (by omega)
  have q0 : ((l.length : Int) == 0) = false := beq_eq_false_iff_ne.mpr (by omega)
  have HP := Aside0.mk (show 0 < l.length by omega)
  have q1 : ((G.length : Int) != (l.length : Int)) = false := by rw [hG]; simp
  have q2 : (W + M != wrap64 (W + M)) = false := by rw [hwm]; simp
  have HD := Aside0.mk (show dz W M l = 0 ∧ G = l.map (de W M) from ⟨hd, hG⟩)
  have HX := Aside0.mk (show (0 ≤ W ∧ W ≤ 100000) ∧ (0 ≤ M ∧ M ≤ 100000) ∧ l.length ≤ 16 from ⟨hW, hM, hn2⟩)
  clear hn hd hc hW hM hL hn1 hn2 hl hG hwm
  go_enter Tryd.func6, Tryd.ntmps6
  go_wp2_with (first
    | ((with_reducible refine gate_dst (N := 4) rfl ?_); refine box_event ?hg (N := 4) ?hd (cs := #[.int .i64 W, .int .i64 M]) (t := 44) ?hr ?_; (case hd => rfl); (case hg => rfl); (case hr => first | (go_simp; done) | (go_simp; rfl)); intro g4 hg w_ hbox hb; have GEg4 := Aside0.mk (by rw [hg]; exact below_size (by repeat (first | (with_reducible first | exact HB.out | apply below_alloc | apply pw_below_drewN | apply below_drew1) | exact HB.out)) : w.heap.size ≤ g4); have nHB_ := Aside0.mk (below_step (by repeat (first | (with_reducible first | exact HB.out | apply below_alloc | apply pw_below_drewN | apply below_drew1) | exact HB.out)) hb); clear HB ; have HB := nHB_; clear nHB_; have B4 := Aside0.mk hbox; clear hg hbox hb; have m0 : w_.cell? ⟨g4, 0, none⟩ = some (.int .i64 W) := (blk_cell B4.out 0).trans rfl; have m1 : w_.cell? ⟨g4, 1, none⟩ = some (.int .i64 M) := (blk_cell B4.out 1).trans rfl)
    | (go_at_call 29; (with_reducible refine (metrolablaw47_few.calls _ _ l true _ ?side1 ?side2 AF.out).mono ?_); (case side1 => repeat (first | exact (Kd.C_below HR0.out HB.out) | (with_reducible refine Kd.C_alloc ?_ _) | (with_reducible refine Kd.C_drewN ?_ _) | (with_reducible refine Kd.C_drew ?_))); (case side2 => exact HC0.out); rintro e w_ ⟨rfl, ⟨nd, rfl⟩⟩)
    | (go_at_call 31; (with_reducible refine (gauge_Design.calls 60 _ _ l W M G 0 _ ?side1 ?side2 AD.out (by exact sig_below HS.out (by repeat (first | (with_reducible first | exact HB.out | apply below_alloc | apply pw_below_drewN | apply below_drew1) | exact HB.out)))).mono ?_); (case side1 => repeat (first | exact (Kd.C_below HR0.out HB.out) | (with_reducible refine Kd.C_alloc ?_ _) | (with_reducible refine Kd.C_drewN ?_ _) | (with_reducible refine Kd.C_drew ?_))); (case side2 => exact HC0.out); rintro e w_ ⟨v_, rfl, ho0, hb⟩; have nR_ := Aside0.mk (Kd.R_lower ho0 (below_size (by repeat (first | (with_reducible first | exact HB.out | apply below_alloc | apply pw_below_drewN | apply below_drew1) | exact HB.out)))); have nB4_ := Aside0.mk (blk_below (by (with_reducible repeat (first | refine blk_drewN ?_ _ | refine blk_drew ?_ | refine blk_alloc ?_ _)); exact B4.out) hb); have nHB_ := Aside0.mk (below_step (by repeat (first | (with_reducible first | exact HB.out | apply below_alloc | apply pw_below_drewN | apply below_drew1) | exact HB.out)) hb); clear HB B4; have HB := nHB_; have B4 := nB4_; clear nB4_; clear nHB_; have HG := nR_; clear nR_ ho0 hb; obtain ⟨Ag, cg, e_⟩ := Kd.R_slice HG.out; subst e_; clear m0 m1; have m0 : w_.cell? ⟨g4, 0, none⟩ = some (.int .i64 W) := (blk_cell B4.out 0).trans rfl; have m1 : w_.cell? ⟨g4, 1, none⟩ = some (.int .i64 M) := (blk_cell B4.out 1).trans rfl)
    | (go_at_call 32; (with_reducible refine (gauge_Loss.calls 60 _ _ l _ _ G (W + M) 0 _ ?side1 ?side2 ?side3 ?side4 AL.out (by exact sig_below HS.out (by repeat (first | (with_reducible first | exact HB.out | apply below_alloc | apply pw_below_drewN | apply below_drew1) | exact HB.out)))).mono ?_); (case side1 => repeat (first | exact (Kd.C_below HR0.out HB.out) | (with_reducible refine Kd.C_alloc ?_ _) | (with_reducible refine Kd.C_drewN ?_ _) | (with_reducible refine Kd.C_drew ?_))); (case side2 => exact HC0.out); (case side3 => repeat (first | exact (Kd.R_reads' HG.out).2.2 | (with_reducible refine Kd.C_alloc ?_ _) | (with_reducible refine Kd.C_drewN ?_ _) | (with_reducible refine Kd.C_drew ?_))); (case side4 => exact (Kd.R_reads' HG.out).2.1); rintro e w_ ⟨rfl, hb⟩; have nB4_ := Aside0.mk (blk_below (by (with_reducible repeat (first | refine blk_drewN ?_ _ | refine blk_drew ?_ | refine blk_alloc ?_ _)); exact B4.out) hb); have nHG_ := Aside0.mk (Kd.R_below (by (with_reducible repeat (first | apply Kd.R_alloc | apply Kd.R_drewN | apply Kd.R_drew)); exact HG.out) hb); have nHB_ := Aside0.mk (below_step (by repeat (first | (with_reducible first | exact HB.out | apply below_alloc | apply pw_below_drewN | apply below_drew1) | exact HB.out)) hb); clear HB B4 HG; have HB := nHB_; have B4 := nB4_; clear nB4_; have HG := nHG_; clear nHG_; clear nHB_; clear hb; clear m0 m1; have m0 : w_.cell? ⟨g4, 0, none⟩ = some (.int .i64 W) := (blk_cell B4.out 0).trans rfl; have m1 : w_.cell? ⟨g4, 1, none⟩ = some (.int .i64 M) := (blk_cell B4.out 1).trans rfl)
    | (go_at_call 33; (with_reducible refine (gauge_Safe.calls 60 _ _ l _ _ G 0 _ ?side1 ?side2 ?side3 ?side4 AS.out (by exact sig_below HS.out (by repeat (first | (with_reducible first | exact HB.out | apply below_alloc | apply pw_below_drewN | apply below_drew1) | exact HB.out)))).mono ?_); (case side1 => repeat (first | exact (Kd.C_below HR0.out HB.out) | (with_reducible refine Kd.C_alloc ?_ _) | (with_reducible refine Kd.C_drewN ?_ _) | (with_reducible refine Kd.C_drew ?_))); (case side2 => exact HC0.out); (case side3 => repeat (first | exact (Kd.R_reads' HG.out).2.2 | (with_reducible refine Kd.C_alloc ?_ _) | (with_reducible refine Kd.C_drewN ?_ _) | (with_reducible refine Kd.C_drew ?_))); (case side4 => exact (Kd.R_reads' HG.out).2.1); rintro e w_ ⟨rfl, hb⟩; have nB4_ := Aside0.mk (blk_below (by (with_reducible repeat (first | refine blk_drewN ?_ _ | refine blk_drew ?_ | refine blk_alloc ?_ _)); exact B4.out) hb); have nHG_ := Aside0.mk (Kd.R_below (by (with_reducible repeat (first | apply Kd.R_alloc | apply Kd.R_drewN | apply Kd.R_drew)); exact HG.out) hb); have nHB_ := Aside0.mk (below_step (by repeat (first | (with_reducible first | exact HB.out | apply below_alloc | apply pw_below_drewN | apply below_drew1) | exact HB.out)) hb); clear HB B4 HG; have HB := nHB_; have B4 := nB4_; clear nB4_; have HG := nHG_; clear nHG_; clear nHB_; clear hb; clear m0 m1; have m0 : w_.cell? ⟨g4, 0, none⟩ = some (.int .i64 W) := (blk_cell B4.out 0).trans rfl; have m1 : w_.cell? ⟨g4, 1, none⟩ = some (.int .i64 M) := (blk_cell B4.out 1).trans rfl)
    | ((with_reducible refine gate_dst (N := 76) rfl ?_); refine Kd.R_lit Kd.bool _ 4 ?hg (N := 76) ?hd (xs := ([false, true] : List Bool)) (inner := [.bool false, .bool true]) (ok := fun _ => True) (okp := fun _ => True) ?hr ?hp (fun _ hk => hk) trivial (Below.refl _ _) (Nat.le_refl _) (by simp) ?_; (case hd => rfl); (case hg => rfl); (case hr => first | (go_simp; done) | (go_simp; rfl)); (case hp => exact (Reps.one (show Kd.M Kd.bool _ _ _ false [.bool false] from rfl) (Reps.one (show Kd.M Kd.bool _ _ _ true [.bool true] from rfl) (Reps.none _ _)))); intro v_ w_ ho0 hb hg_ hnew_; clear hg_ hnew_; have nR_ := Aside0.mk (Kd.R_lower ho0 (below_size (by repeat (first | (with_reducible first | exact HB.out | apply below_alloc | apply pw_below_drewN | apply below_drew1) | exact HB.out)))); have nB4_ := Aside0.mk (blk_below (by (with_reducible repeat (first | refine blk_drewN ?_ _ | refine blk_drew ?_ | refine blk_alloc ?_ _)); exact B4.out) hb); have nHG_ := Aside0.mk (Kd.R_below (by (with_reducible repeat (first | apply Kd.R_alloc | apply Kd.R_drewN | apply Kd.R_drew)); exact HG.out) hb); have nHB_ := Aside0.mk (below_step (by repeat (first | (with_reducible first | exact HB.out | apply below_alloc | apply pw_below_drewN | apply below_drew1) | exact HB.out)) hb); clear HB B4 HG; have HB := nHB_; have B4 := nB4_; clear nB4_; have HG := nHG_; clear nHG_; clear nHB_; have HL := nR_; clear nR_ ho0 hb; obtain ⟨Ab, cb, e_⟩ := Kd.R_slice HL.out; subst e_; clear m0 m1; have m0 : w_.cell? ⟨g4, 0, none⟩ = some (.int .i64 W) := (blk_cell B4.out 0).trans rfl; have m1 : w_.cell? ⟨g4, 1, none⟩ = some (.int .i64 M) := (blk_cell B4.out 1).trans rfl))
  clear m0 m1
  refine wp_loop_rounds 3 ?_
  rw [rounds_succ]
  obtain ⟨ab, eb, b0⟩ := Kd.at_bool (Kd.R_reads' HL.out).2.2 0 (by decide) (by decide)
  cases eb
  replace b0 : w_.cell? ab = some (.bool false) := b0
  obtain ⟨T, hT⟩ : ∃ T, T = D false W M l := ⟨_, rfl⟩
  have HN := Aside0.mk (show T.length = l.length by rw [hT]; simp [D])
  have AM := Aside0.mk (show gauge_Made.f 60 G false = some (T, 0) by rw [gmade 60 (by omega), HD.out.2, mz_de HX.out.1 HX.out.2.1 HX.out.2.2 (ce_ok (dz_ok HD.out.1).1).2.2 (dz_ok HD.out.1).2.2.2, if_pos rfl, D_is, hT])
  have qT : ((T.length : Int) != (l.length : Int)) = false := by rw [HN.out]; simp
  have HTD := Aside0.mk hT
  clear hT
  have hz : (wrap64 (W + 1) = 0) = False := eq_false (by rw [w64 (by have := HX.out.1; omega)]; have := HX.out.1; omega)
  go_wp2_with (first | (go_at_call 34; (with_reducible refine (gauge_Made.calls 60 _ _ G false T 0 _ ?side1 ?side2 AM.out (by exact sig_below HS.out (by repeat (first | (with_reducible first | exact HB.out | apply below_alloc | apply pw_below_drewN | apply below_drew1) | exact HB.out)))).mono ?_); (case side1 => repeat (first | exact (Kd.R_reads' HG.out).2.2 | (with_reducible refine Kd.C_alloc ?_ _) | (with_reducible refine Kd.C_drewN ?_ _) | (with_reducible refine Kd.C_drew ?_))); (case side2 => exact (Kd.R_reads' HG.out).2.1); rintro e w_ ⟨v_, rfl, ho0, hb⟩; have nR_ := Aside0.mk (Kd.R_lower ho0 (below_size (by repeat (first | (with_reducible first | exact HB.out | apply below_alloc | apply pw_below_drewN | apply below_drew1) | exact HB.out)))); have nB4_ := Aside0.mk (blk_below (by (with_reducible repeat (first | refine blk_drewN ?_ _ | refine blk_drew ?_ | refine blk_alloc ?_ _)); exact B4.out) hb); have nHG_ := Aside0.mk (Kd.R_below (by (with_reducible repeat (first | apply Kd.R_alloc | apply Kd.R_drewN | apply Kd.R_drew)); exact HG.out) hb); have nHL_ := Aside0.mk (Kd.R_below (by (with_reducible repeat (first | apply Kd.R_alloc | apply Kd.R_drewN | apply Kd.R_drew)); exact HL.out) hb); have nHB_ := Aside0.mk (below_step (by repeat (first | (with_reducible first | exact HB.out | apply below_alloc | apply pw_below_drewN | apply below_drew1) | exact HB.out)) hb); clear HB B4 HG HL; have HB := nHB_; have B4 := nB4_; clear nB4_; have HG := nHG_; clear nHG_; have HL := nHL_; clear nHL_; clear nHB_; have HT := nR_; clear nR_ ho0 hb; obtain ⟨gt, ct, e_, hgt, _, cl_, hcl_⟩ := Kd.R_form HT.out (by rw [HN.out]; exact HP.out); subst e_; have GT := Aside0.mk hgt; have NE := Aside0.mk (blk_ne B4.out hcl_ (by decide)); clear hgt hcl_; have m0 : w_.cell? ⟨g4, 0, none⟩ = some (.int .i64 W) := (blk_cell B4.out 0).trans rfl))
  generalize hkk : by_ % wrap64 (W + 1) = kk
  have HK := Aside0.mk (show 0 ≤ kk ∧ kk ≤ W by rw [← hkk, w64 (by have := HX.out.1; omega)]; have := HX.out.1; exact ⟨Int.emod_nonneg _ (by omega), by have := Int.emod_lt_of_pos by_ (show 0 < W + 1 by omega); omega⟩)
  clear hkk m0
  go_loopg [105] (T.length + 1) (fun kq v105 w' => ∃ (i : Int), v105 = .int .i64 i ∧ Aside0 (0 ≤ i ∧ i + kq = T.length + 1 ∧ i ≤ T.length) ∧ Aside0 (∀ x ∈ (T.take i.toNat).map (U kk), 1 ≤ x.f2) ∧ Aside0 (Kd.R k56 56 w' w.heap.size (fun _ => True) (.slice (some ⟨gt, 0, none⟩) T.length ct) (upTo (U kk) T i)) ∧ Aside0 (Kd.R k104 104 w' w.heap.size (fun _ => True) (.slice Ag G.length cg) G) ∧ Aside0 (Kd.R Kd.bool 4 w' w.heap.size (fun _ => True) (.slice (some ab) [false, true].length cb) [false, true]) ∧ Aside0 (w'.heap[g4]? = some (.cells #[.int .i64 W, .int .i64 M] 44 (0, 0))) ∧ Aside0 (Below w.heap.size w w'))
  case atStart => exact ⟨0, (by first | rfl | (simp; done) | (simp [*]; done)), ⟨by omega⟩, ⟨by intro x hx; simp at hx⟩, ⟨by rw [upTo_zero]; exact (by (with_reducible repeat (first | apply Kd.R_alloc | apply Kd.R_drewN | apply Kd.R_drew)); exact HT.out)⟩, ⟨(by (with_reducible repeat (first | apply Kd.R_alloc | apply Kd.R_drewN | apply Kd.R_drew)); exact HG.out)⟩, ⟨(by (with_reducible repeat (first | apply Kd.R_alloc | apply Kd.R_drewN | apply Kd.R_drew)); exact HL.out)⟩, ⟨(by (with_reducible repeat (first | refine blk_drewN ?_ _ | refine blk_drew ?_ | refine blk_alloc ?_ _)); exact B4.out)⟩, ⟨by repeat (first | (with_reducible first | exact HB.out | apply below_alloc | apply pw_below_drewN | apply below_drew1) | exact HB.out)⟩⟩
  case round =>
    obtain ⟨i, rfl, HI, HSM, HT, HG, HL, B4, HB⟩ := hrel
    cases gk with
    | zero => exact absurd HI.out (by omega)
    | succ k1 =>
      by_cases hi : i < (T.length : Int)
      · have h0 := HI.out.1
        have hlen : (upTo (U kk) T i).length = T.length := upTo_len _ _ _
        obtain ⟨x0, x1, x2, x3, xf⟩ := tool_at HT.out h0 hi
        rw [upTo_rd (U kk) T h0 hi] at x0 x1 x2 x3
        have XR := Aside0.mk (show -400000 ≤ (rd_T56 T i).f2 ∧ (rd_T56 T i).f2 ≤ 400000 by rw [HTD.out]; exact D_range HD.out.1 _ h0 (by have := HN.out; omega))
        have c8b := decide_eq_true hi
        have p1 := eq_true h0
        have p2 := eq_true hi
        obtain ⟨sg, hsg⟩ : ∃ sg : Int, sg = if (rd_T56 T i).f1 = true then 1 else -1 := ⟨_, rfl⟩
        have ASG := Aside0.mk (show metrolablaw47_sign.f (rd_T56 T i).f0.f0 (rd_T56 T i).f0.f1 (rd_T56 T i).f1 (rd_T56 T i).f2 = some sg by rw [hsg]; unfold metrolablaw47_sign.f; split <;> rfl)
        have HSG := Aside0.mk hsg
        clear hsg
        go_wp2
        go_region_with (first | (go_at_call 35; refine (metrolablaw47_sign.calls _ _ _ _ sg _ ASG.out).mono ?_; rintro e w_ ⟨rfl, hb⟩; have HT2 := Aside0.mk (Kd.R_below (by (with_reducible repeat (first | apply Kd.R_alloc | apply Kd.R_drewN | apply Kd.R_drew)); exact HT.out) hb); have HB2 := Aside0.mk hb; obtain ⟨y0, y1, y2, y3, yf⟩ := tool_at HT2.out h0 hi; rw [upTo_rd (U kk) T h0 hi] at y0 y1 y2 y3; clear x0 x1 x2 x3 xf hb))
        all_goals (
          have HP := put_size HT2.out h0 hi (IntKind.i64.wrap ((rd_T56 T i).f2 + IntKind.i64.wrap (sg * kk)))
          rw [upTo_rd (U kk) T h0 hi, U_size XR.out (by have := HK.out; have := HX.out.1; omega) HSG.out, upTo_set (U kk) T h0 hi] at HP
          have HG2 := Kd.R_over' (v := (.slice (some ⟨gt, 0, none⟩) T.length ct)) (Kd.R_below (by (with_reducible repeat (first | apply Kd.R_alloc | apply Kd.R_drewN | apply Kd.R_drew)); exact HG.out) HB2.out) (Kd.R_typed HT2.out) (by decide) HP.2
          have HL2 := Kd.R_over' (v := (.slice (some ⟨gt, 0, none⟩) T.length ct)) (Kd.R_below (by (with_reducible repeat (first | apply Kd.R_alloc | apply Kd.R_drewN | apply Kd.R_drew)); exact HL.out) HB2.out) (Kd.R_typed HT2.out) (by decide) HP.2
          have B42 := blk_far (blk_below (by (with_reducible repeat (first | refine blk_drewN ?_ _ | refine blk_drew ?_ | refine blk_alloc ?_ _)); exact B4.out) HB2.out) (p := ⟨gt, i.toNat * 4 + 3, none⟩) NE.out (.int .i64 (IntKind.i64.wrap ((rd_T56 T i).f2 + IntKind.i64.wrap (sg * kk))))
          have HBN := below_set (j := i.toNat * 4 + 3) (v := .int .i64 (IntKind.i64.wrap ((rd_T56 T i).f2 + IntKind.i64.wrap (sg * kk)))) (below_step (by repeat (first | (with_reducible first | exact HB.out | apply below_alloc | apply pw_below_drewN | apply below_drew1) | exact HB.out)) HB2.out) GT.out
          have HP1 := HP.1
          clear HP
          generalize w_.setCell ⟨gt, i.toNat * 4 + 3, none⟩ (.int .i64 (IntKind.i64.wrap ((rd_T56 T i).f2 + IntKind.i64.wrap (sg * kk)))) = w2 at HP1 HG2 HL2 B42 HBN ⊢
          clear HT2 HB2 HG HL B4 HB HT y0 y1 y2 y3 yf
          have HT := Aside0.mk HP1
          have HG := Aside0.mk HG2
          have HL := Aside0.mk HL2
          have B4 := Aside0.mk B42
          have HB := Aside0.mk HBN
          clear HP1 HG2 HL2 B42 HBN
          obtain ⟨y0, y1, y2, y3, yf⟩ := tool_at HT.out h0 hi
          rw [upTo_rd2 (U kk) T h0 hi] at y0 y1 y2 y3
          have SZ := Aside0.mk (show ∀ (_ : 1 ≤ (U kk (rd_T56 T i)).f2), ∀ x ∈ (T.take (i + 1).toNat).map (U kk), 1 ≤ x.f2 from fun h => upTo_small h0 hi HSM.out h)
          generalize (U kk (rd_T56 T i)).f2 = sz at y3 SZ ⊢
          by_cases hsm : sz < 1
          · have hsm1 := decide_eq_true hsm
            clear hsm
            go_wp2_with (first | (go_at_call 30; (with_reducible refine (metrolablaw47_awake.calls 60 true _ awake_60 (by exact sig_below HS.out (by repeat (first | (with_reducible first | exact HB.out | apply below_alloc | apply pw_below_drewN | apply below_drew1) | exact HB.out)))).mono ?_); rintro e w_ ⟨rfl, hb⟩; have nHB_ := Aside0.mk (below_step (by repeat (first | (with_reducible first | exact HB.out | apply below_alloc | apply pw_below_drewN | apply below_drew1) | exact HB.out)) hb); clear HB ; have HB := nHB_; clear nHB_; clear hb))
            go_ret
            exact ⟨rfl, by repeat (first | (with_reducible first | exact HB.out | apply below_alloc | apply pw_below_drewN | apply below_drew1) | exact HB.out)⟩
          · have hsm1 := decide_eq_false hsm
            go_wp2
            go_roundg k1
            case measure => omega
            case rel => exact ⟨(wrap64 (i + 1)), (by first | rfl | (simp; done) | (simp [*]; done)), ⟨by have := HI.out; rw [up64 h0 (by have := HX.out; have := HN.out; omega)]; omega⟩, ⟨by rw [up64 h0 (by have := HX.out; have := HN.out; omega)]; exact SZ.out (by omega)⟩, ⟨by rw [up64 h0 (by have := HX.out; have := HN.out; omega)]; exact (by (with_reducible repeat (first | apply Kd.R_alloc | apply Kd.R_drewN | apply Kd.R_drew)); exact HT.out)⟩, ⟨(by (with_reducible repeat (first | apply Kd.R_alloc | apply Kd.R_drewN | apply Kd.R_drew)); exact HG.out)⟩, ⟨(by (with_reducible repeat (first | apply Kd.R_alloc | apply Kd.R_drewN | apply Kd.R_drew)); exact HL.out)⟩, ⟨(by (with_reducible repeat (first | refine blk_drewN ?_ _ | refine blk_drew ?_ | refine blk_alloc ?_ _)); exact B4.out)⟩, ⟨by repeat (first | (with_reducible first | exact HB.out | apply below_alloc | apply pw_below_drewN | apply below_drew1) | exact HB.out)⟩⟩)
      · have h0 := HI.out.1
        have hend := upTo_end (U kk) T (i := i) (by omega)
        have HT2 := HT.out
        rw [hend] at HT2
        clear HT
        have HT := Aside0.mk HT2
        clear HT2
        have hsm2 := HSM.out
        rw [List.take_of_length_le (by omega)] at hsm2
        obtain ⟨wz1, wo1⟩ := lasts_worn HD.out.1 false HK.out (by rw [← HTD.out]; exact hsm2)
        rw [← HTD.out] at wz1 wo1
        have AWN := Aside0.mk (show gauge_Worn.f 60 l (T.map (U kk)) = some ([], 0) by rw [gworn 60 (by omega), wz1, wo1])
        have LM := Aside0.mk (show (T.map (U kk)).length = T.length by simp)
        have hlen : (upTo (U kk) T i).length = T.length := upTo_len _ _ _
        have c8b := decide_eq_false hi
        clear HSM hsm2 wz1 wo1 hend
        generalize T.map (U kk) = Tm at *
        go_wp2_with (first | (go_at_call 36; (with_reducible refine (@worn_at 60 A0 c0 l (some ⟨gt, 0, none⟩) ct Tm [] 0 _ T.length LM.out ?side1 ?side2 ?side3 ?side4 AWN.out (by exact sig_below HS.out (by repeat (first | (with_reducible first | exact HB.out | apply below_alloc | apply pw_below_drewN | apply below_drew1) | exact HB.out)))).mono ?_); (case side1 => repeat (first | exact (Kd.C_below HR0.out HB.out) | (with_reducible refine Kd.C_alloc ?_ _) | (with_reducible refine Kd.C_drewN ?_ _) | (with_reducible refine Kd.C_drew ?_))); (case side2 => exact HC0.out); (case side3 => repeat (first | exact (Kd.R_reads' HT.out).2.2 | (with_reducible refine Kd.C_alloc ?_ _) | (with_reducible refine Kd.C_drewN ?_ _) | (with_reducible refine Kd.C_drew ?_))); (case side4 => exact (Kd.R_reads' HT.out).2.1); rintro e w_ ⟨v_, rfl, ho0, hb⟩; have nR_ := Aside0.mk (Kd.R_lower ho0 (below_size (by repeat (first | (with_reducible first | exact HB.out | apply below_alloc | apply pw_below_drewN | apply below_drew1) | exact HB.out)))); have nB4_ := Aside0.mk (blk_below (by (with_reducible repeat (first | refine blk_drewN ?_ _ | refine blk_drew ?_ | refine blk_alloc ?_ _)); exact B4.out) hb); have nHG_ := Aside0.mk (Kd.R_below (by (with_reducible repeat (first | apply Kd.R_alloc | apply Kd.R_drewN | apply Kd.R_drew)); exact HG.out) hb); have nHL_ := Aside0.mk (Kd.R_below (by (with_reducible repeat (first | apply Kd.R_alloc | apply Kd.R_drewN | apply Kd.R_drew)); exact HL.out) hb); have nHB_ := Aside0.mk (below_step (by repeat (first | (with_reducible first | exact HB.out | apply below_alloc | apply pw_below_drewN | apply below_drew1) | exact HB.out)) hb); clear HB B4 HG HL; have HB := nHB_; have B4 := nB4_; clear nB4_; have HG := nHG_; clear nHG_; have HL := nHL_; clear nHL_; clear nHB_; have HW := nR_; clear nR_ ho0 hb; obtain ⟨Aw, cw, e_⟩ := Kd.R_slice HW.out; subst e_))
        try clear HT
        try clear LM
        try clear AWN
        try clear hlen
        try clear c8b
        try clear AM
        try clear qT
        try clear hz
        try clear HW
        try clear HTD
        try clear HN
        try clear GT
        try clear NE
        try clear HK
        rw [rounds_succ]
        obtain ⟨ab, eb, b0⟩ := Kd.at_bool (Kd.R_reads' HL.out).2.2 1 (by decide) (by decide)
        cases eb
        replace b0 : w_.cell? ⟨ab.block, ab.off + 1, none⟩ = some (.bool true) := b0
        obtain ⟨T, hT⟩ : ∃ T, T = D true W M l := ⟨_, rfl⟩
        have HN := Aside0.mk (show T.length = l.length by rw [hT]; simp [D])
        have AM := Aside0.mk (show gauge_Made.f 60 G true = some (T, 0) by rw [gmade 60 (by omega), HD.out.2, mz_de HX.out.1 HX.out.2.1 HX.out.2.2 (ce_ok (dz_ok HD.out.1).1).2.2 (dz_ok HD.out.1).2.2.2, if_pos rfl, D_is, hT])
        have qT : ((T.length : Int) != (l.length : Int)) = false := by rw [HN.out]; simp
        have HTD := Aside0.mk hT
        clear hT
        have hz : (wrap64 (W + 1) = 0) = False := eq_false (by rw [w64 (by have := HX.out.1; omega)]; have := HX.out.1; omega)
        go_wp2_with (first | (go_at_call 34; (with_reducible refine (gauge_Made.calls 60 _ _ G true T 0 _ ?side1 ?side2 AM.out (by exact sig_below HS.out (by repeat (first | (with_reducible first | exact HB.out | apply below_alloc | apply pw_below_drewN | apply below_drew1) | exact HB.out)))).mono ?_); (case side1 => repeat (first | exact (Kd.R_reads' HG.out).2.2 | (with_reducible refine Kd.C_alloc ?_ _) | (with_reducible refine Kd.C_drewN ?_ _) | (with_reducible refine Kd.C_drew ?_))); (case side2 => exact (Kd.R_reads' HG.out).2.1); rintro e w_ ⟨v_, rfl, ho0, hb⟩; have nR_ := Aside0.mk (Kd.R_lower ho0 (below_size (by repeat (first | (with_reducible first | exact HB.out | apply below_alloc | apply pw_below_drewN | apply below_drew1) | exact HB.out)))); have nB4_ := Aside0.mk (blk_below (by (with_reducible repeat (first | refine blk_drewN ?_ _ | refine blk_drew ?_ | refine blk_alloc ?_ _)); exact B4.out) hb); have nHG_ := Aside0.mk (Kd.R_below (by (with_reducible repeat (first | apply Kd.R_alloc | apply Kd.R_drewN | apply Kd.R_drew)); exact HG.out) hb); have nHL_ := Aside0.mk (Kd.R_below (by (with_reducible repeat (first | apply Kd.R_alloc | apply Kd.R_drewN | apply Kd.R_drew)); exact HL.out) hb); have nHB_ := Aside0.mk (below_step (by repeat (first | (with_reducible first | exact HB.out | apply below_alloc | apply pw_below_drewN | apply below_drew1) | exact HB.out)) hb); clear HB B4 HG HL; have HB := nHB_; have B4 := nB4_; clear nB4_; have HG := nHG_; clear nHG_; have HL := nHL_; clear nHL_; clear nHB_; have HT := nR_; clear nR_ ho0 hb; obtain ⟨gt, ct, e_, hgt, _, cl_, hcl_⟩ := Kd.R_form HT.out (by rw [HN.out]; exact HP.out); subst e_; have GT := Aside0.mk hgt; have NE := Aside0.mk (blk_ne B4.out hcl_ (by decide)); clear hgt hcl_; have m0 : w_.cell? ⟨g4, 0, none⟩ = some (.int .i64 W) := (blk_cell B4.out 0).trans rfl))
        generalize hkk : by_ % wrap64 (W + 1) = kk
        have HK := Aside0.mk (show 0 ≤ kk ∧ kk ≤ W by rw [← hkk, w64 (by have := HX.out.1; omega)]; have := HX.out.1; exact ⟨Int.emod_nonneg _ (by omega), by have := Int.emod_lt_of_pos by_ (show 0 < W + 1 by omega); omega⟩)
        clear hkk m0
        go_loopg [105] (T.length + 1) (fun kq v105 w' => ∃ (i : Int), v105 = .int .i64 i ∧ Aside0 (0 ≤ i ∧ i + kq = T.length + 1 ∧ i ≤ T.length) ∧ Aside0 (∀ x ∈ (T.take i.toNat).map (U kk), 1 ≤ x.f2) ∧ Aside0 (Kd.R k56 56 w' w.heap.size (fun _ => True) (.slice (some ⟨gt, 0, none⟩) T.length ct) (upTo (U kk) T i)) ∧ Aside0 (Kd.R k104 104 w' w.heap.size (fun _ => True) (.slice Ag G.length cg) G) ∧ Aside0 (Kd.R Kd.bool 4 w' w.heap.size (fun _ => True) (.slice (some ab) [false, true].length cb) [false, true]) ∧ Aside0 (w'.heap[g4]? = some (.cells #[.int .i64 W, .int .i64 M] 44 (0, 0))) ∧ Aside0 (Below w.heap.size w w'))
        case atStart => exact ⟨0, (by first | rfl | (simp; done) | (simp [*]; done)), ⟨by omega⟩, ⟨by intro x hx; simp at hx⟩, ⟨by rw [upTo_zero]; exact (by (with_reducible repeat (first | apply Kd.R_alloc | apply Kd.R_drewN | apply Kd.R_drew)); exact HT.out)⟩, ⟨(by (with_reducible repeat (first | apply Kd.R_alloc | apply Kd.R_drewN | apply Kd.R_drew)); exact HG.out)⟩, ⟨(by (with_reducible repeat (first | apply Kd.R_alloc | apply Kd.R_drewN | apply Kd.R_drew)); exact HL.out)⟩, ⟨(by (with_reducible repeat (first | refine blk_drewN ?_ _ | refine blk_drew ?_ | refine blk_alloc ?_ _)); exact B4.out)⟩, ⟨by repeat (first | (with_reducible first | exact HB.out | apply below_alloc | apply pw_below_drewN | apply below_drew1) | exact HB.out)⟩⟩
        case round =>
          obtain ⟨i, rfl, HI, HSM, HT, HG, HL, B4, HB⟩ := hrel
          cases gk with
          | zero => exact absurd HI.out (by omega)
          | succ k1 =>
            by_cases hi : i < (T.length : Int)
            · have h0 := HI.out.1
              have hlen : (upTo (U kk) T i).length = T.length := upTo_len _ _ _
              obtain ⟨x0, x1, x2, x3, xf⟩ := tool_at HT.out h0 hi
              rw [upTo_rd (U kk) T h0 hi] at x0 x1 x2 x3
              have XR := Aside0.mk (show -400000 ≤ (rd_T56 T i).f2 ∧ (rd_T56 T i).f2 ≤ 400000 by rw [HTD.out]; exact D_range HD.out.1 _ h0 (by have := HN.out; omega))
              have c8b := decide_eq_true hi
              have p1 := eq_true h0
              have p2 := eq_true hi
              obtain ⟨sg, hsg⟩ : ∃ sg : Int, sg = if (rd_T56 T i).f1 = true then 1 else -1 := ⟨_, rfl⟩
              have ASG := Aside0.mk (show metrolablaw47_sign.f (rd_T56 T i).f0.f0 (rd_T56 T i).f0.f1 (rd_T56 T i).f1 (rd_T56 T i).f2 = some sg by rw [hsg]; unfold metrolablaw47_sign.f; split <;> rfl)
              have HSG := Aside0.mk hsg
              clear hsg
              go_wp2
              go_region_with (first | (go_at_call 35; refine (metrolablaw47_sign.calls _ _ _ _ sg _ ASG.out).mono ?_; rintro e w_ ⟨rfl, hb⟩; have HT2 := Aside0.mk (Kd.R_below (by (with_reducible repeat (first | apply Kd.R_alloc | apply Kd.R_drewN | apply Kd.R_drew)); exact HT.out) hb); have HB2 := Aside0.mk hb; obtain ⟨y0, y1, y2, y3, yf⟩ := tool_at HT2.out h0 hi; rw [upTo_rd (U kk) T h0 hi] at y0 y1 y2 y3; clear x0 x1 x2 x3 xf hb))
              all_goals (
                have HP := put_size HT2.out h0 hi (IntKind.i64.wrap ((rd_T56 T i).f2 + IntKind.i64.wrap (sg * kk)))
                rw [upTo_rd (U kk) T h0 hi, U_size XR.out (by have := HK.out; have := HX.out.1; omega) HSG.out, upTo_set (U kk) T h0 hi] at HP
                have HG2 := Kd.R_over' (v := (.slice (some ⟨gt, 0, none⟩) T.length ct)) (Kd.R_below (by (with_reducible repeat (first | apply Kd.R_alloc | apply Kd.R_drewN | apply Kd.R_drew)); exact HG.out) HB2.out) (Kd.R_typed HT2.out) (by decide) HP.2
                have HL2 := Kd.R_over' (v := (.slice (some ⟨gt, 0, none⟩) T.length ct)) (Kd.R_below (by (with_reducible repeat (first | apply Kd.R_alloc | apply Kd.R_drewN | apply Kd.R_drew)); exact HL.out) HB2.out) (Kd.R_typed HT2.out) (by decide) HP.2
                have B42 := blk_far (blk_below (by (with_reducible repeat (first | refine blk_drewN ?_ _ | refine blk_drew ?_ | refine blk_alloc ?_ _)); exact B4.out) HB2.out) (p := ⟨gt, i.toNat * 4 + 3, none⟩) NE.out (.int .i64 (IntKind.i64.wrap ((rd_T56 T i).f2 + IntKind.i64.wrap (sg * kk))))
                have HBN := below_set (j := i.toNat * 4 + 3) (v := .int .i64 (IntKind.i64.wrap ((rd_T56 T i).f2 + IntKind.i64.wrap (sg * kk)))) (below_step (by repeat (first | (with_reducible first | exact HB.out | apply below_alloc | apply pw_below_drewN | apply below_drew1) | exact HB.out)) HB2.out) GT.out
                have HP1 := HP.1
                clear HP
                generalize w_.setCell ⟨gt, i.toNat * 4 + 3, none⟩ (.int .i64 (IntKind.i64.wrap ((rd_T56 T i).f2 + IntKind.i64.wrap (sg * kk)))) = w2 at HP1 HG2 HL2 B42 HBN ⊢
                clear HT2 HB2 HG HL B4 HB HT y0 y1 y2 y3 yf
                have HT := Aside0.mk HP1
                have HG := Aside0.mk HG2
                have HL := Aside0.mk HL2
                have B4 := Aside0.mk B42
                have HB := Aside0.mk HBN
                clear HP1 HG2 HL2 B42 HBN
                obtain ⟨y0, y1, y2, y3, yf⟩ := tool_at HT.out h0 hi
                rw [upTo_rd2 (U kk) T h0 hi] at y0 y1 y2 y3
                have SZ := Aside0.mk (show ∀ (_ : 1 ≤ (U kk (rd_T56 T i)).f2), ∀ x ∈ (T.take (i + 1).toNat).map (U kk), 1 ≤ x.f2 from fun h => upTo_small h0 hi HSM.out h)
                generalize (U kk (rd_T56 T i)).f2 = sz at y3 SZ ⊢
                by_cases hsm : sz < 1
                · have hsm1 := decide_eq_true hsm
                  clear hsm
                  go_wp2_with (first | (go_at_call 30; (with_reducible refine (metrolablaw47_awake.calls 60 true _ awake_60 (by exact sig_below HS.out (by repeat (first | (with_reducible first | exact HB.out | apply below_alloc | apply pw_below_drewN | apply below_drew1) | exact HB.out)))).mono ?_); rintro e w_ ⟨rfl, hb⟩; have nHB_ := Aside0.mk (below_step (by repeat (first | (with_reducible first | exact HB.out | apply below_alloc | apply pw_below_drewN | apply below_drew1) | exact HB.out)) hb); clear HB ; have HB := nHB_; clear nHB_; clear hb))
                  go_ret
                  exact ⟨rfl, by repeat (first | (with_reducible first | exact HB.out | apply below_alloc | apply pw_below_drewN | apply below_drew1) | exact HB.out)⟩
                · have hsm1 := decide_eq_false hsm
                  go_wp2
                  go_roundg k1
                  case measure => omega
                  case rel => exact ⟨(wrap64 (i + 1)), (by first | rfl | (simp; done) | (simp [*]; done)), ⟨by have := HI.out; rw [up64 h0 (by have := HX.out; have := HN.out; omega)]; omega⟩, ⟨by rw [up64 h0 (by have := HX.out; have := HN.out; omega)]; exact SZ.out (by omega)⟩, ⟨by rw [up64 h0 (by have := HX.out; have := HN.out; omega)]; exact (by (with_reducible repeat (first | apply Kd.R_alloc | apply Kd.R_drewN | apply Kd.R_drew)); exact HT.out)⟩, ⟨(by (with_reducible repeat (first | apply Kd.R_alloc | apply Kd.R_drewN | apply Kd.R_drew)); exact HG.out)⟩, ⟨(by (with_reducible repeat (first | apply Kd.R_alloc | apply Kd.R_drewN | apply Kd.R_drew)); exact HL.out)⟩, ⟨(by (with_reducible repeat (first | refine blk_drewN ?_ _ | refine blk_drew ?_ | refine blk_alloc ?_ _)); exact B4.out)⟩, ⟨by repeat (first | (with_reducible first | exact HB.out | apply below_alloc | apply pw_below_drewN | apply below_drew1) | exact HB.out)⟩⟩)
            · have h0 := HI.out.1
              have hend := upTo_end (U kk) T (i := i) (by omega)
              have HT2 := HT.out
              rw [hend] at HT2
              clear HT
              have HT := Aside0.mk HT2
              clear HT2
              have hsm2 := HSM.out
              rw [List.take_of_length_le (by omega)] at hsm2
              obtain ⟨wz1, wo1⟩ := lasts_worn HD.out.1 true HK.out (by rw [← HTD.out]; exact hsm2)
              rw [← HTD.out] at wz1 wo1
              have AWN := Aside0.mk (show gauge_Worn.f 60 l (T.map (U kk)) = some ([], 0) by rw [gworn 60 (by omega), wz1, wo1])
              have LM := Aside0.mk (show (T.map (U kk)).length = T.length by simp)
              have hlen : (upTo (U kk) T i).length = T.length := upTo_len _ _ _
              have c8b := decide_eq_false hi
              clear HSM hsm2 wz1 wo1 hend
              generalize T.map (U kk) = Tm at *
              go_wp2_with (first | (go_at_call 36; (with_reducible refine (@worn_at 60 A0 c0 l (some ⟨gt, 0, none⟩) ct Tm [] 0 _ T.length LM.out ?side1 ?side2 ?side3 ?side4 AWN.out (by exact sig_below HS.out (by repeat (first | (with_reducible first | exact HB.out | apply below_alloc | apply pw_below_drewN | apply below_drew1) | exact HB.out)))).mono ?_); (case side1 => repeat (first | exact (Kd.C_below HR0.out HB.out) | (with_reducible refine Kd.C_alloc ?_ _) | (with_reducible refine Kd.C_drewN ?_ _) | (with_reducible refine Kd.C_drew ?_))); (case side2 => exact HC0.out); (case side3 => repeat (first | exact (Kd.R_reads' HT.out).2.2 | (with_reducible refine Kd.C_alloc ?_ _) | (with_reducible refine Kd.C_drewN ?_ _) | (with_reducible refine Kd.C_drew ?_))); (case side4 => exact (Kd.R_reads' HT.out).2.1); rintro e w_ ⟨v_, rfl, ho0, hb⟩; have nR_ := Aside0.mk (Kd.R_lower ho0 (below_size (by repeat (first | (with_reducible first | exact HB.out | apply below_alloc | apply pw_below_drewN | apply below_drew1) | exact HB.out)))); have nB4_ := Aside0.mk (blk_below (by (with_reducible repeat (first | refine blk_drewN ?_ _ | refine blk_drew ?_ | refine blk_alloc ?_ _)); exact B4.out) hb); have nHG_ := Aside0.mk (Kd.R_below (by (with_reducible repeat (first | apply Kd.R_alloc | apply Kd.R_drewN | apply Kd.R_drew)); exact HG.out) hb); have nHL_ := Aside0.mk (Kd.R_below (by (with_reducible repeat (first | apply Kd.R_alloc | apply Kd.R_drewN | apply Kd.R_drew)); exact HL.out) hb); have nHB_ := Aside0.mk (below_step (by repeat (first | (with_reducible first | exact HB.out | apply below_alloc | apply pw_below_drewN | apply below_drew1) | exact HB.out)) hb); clear HB B4 HG HL; have HB := nHB_; have B4 := nB4_; clear nB4_; have HG := nHG_; clear nHG_; have HL := nHL_; clear nHL_; clear nHB_; have HW := nR_; clear nR_ ho0 hb; obtain ⟨Aw, cw, e_⟩ := Kd.R_slice HW.out; subst e_))
              try clear HT
              try clear LM
              try clear AWN
              try clear hlen
              try clear c8b
              try clear AM
              try clear qT
              try clear hz
              try clear HW
              try clear HTD
              try clear HN
              try clear GT
              try clear NE
              try clear HK
              obtain ⟨T, hT⟩ : ∃ T, T = D false W M l := ⟨_, rfl⟩
              have HN := Aside0.mk (show T.length = l.length by rw [hT]; simp [D])
              have AM := Aside0.mk (show gauge_Made.f 60 G false = some (T, 0) by rw [gmade 60 (by omega), HD.out.2, mz_de HX.out.1 HX.out.2.1 HX.out.2.2 (ce_ok (dz_ok HD.out.1).1).2.2 (dz_ok HD.out.1).2.2.2, if_pos rfl, D_is, hT])
              have HTD := Aside0.mk hT
              clear hT
              rw [rounds_succ]
              go_upto_region 28 with (first
                  | (go_at_call 34; (with_reducible refine (gauge_Made.calls 60 _ _ G false T 0 _ ?side1 ?side2 AM.out (by exact sig_below HS.out (by repeat (first | (with_reducible first | exact HB.out | apply below_alloc | apply pw_below_drewN | apply below_drew1) | exact HB.out)))).mono ?_); (case side1 => repeat (first | exact (Kd.R_reads' HG.out).2.2 | (with_reducible refine Kd.C_alloc ?_ _) | (with_reducible refine Kd.C_drewN ?_ _) | (with_reducible refine Kd.C_drew ?_))); (case side2 => exact (Kd.R_reads' HG.out).2.1); rintro e w_ ⟨v_, rfl, ho0, hb⟩; have nR_ := Aside0.mk (Kd.R_lower ho0 (below_size (by repeat (first | (with_reducible first | exact HB.out | apply below_alloc | apply pw_below_drewN | apply below_drew1) | exact HB.out)))); have nB4_ := Aside0.mk (blk_below (by (with_reducible repeat (first | refine blk_drewN ?_ _ | refine blk_drew ?_ | refine blk_alloc ?_ _)); exact B4.out) hb); have nHG_ := Aside0.mk (Kd.R_below (by (with_reducible repeat (first | apply Kd.R_alloc | apply Kd.R_drewN | apply Kd.R_drew)); exact HG.out) hb); have nHL_ := Aside0.mk (Kd.R_below (by (with_reducible repeat (first | apply Kd.R_alloc | apply Kd.R_drewN | apply Kd.R_drew)); exact HL.out) hb); have nHB_ := Aside0.mk (below_step (by repeat (first | (with_reducible first | exact HB.out | apply below_alloc | apply pw_below_drewN | apply below_drew1) | exact HB.out)) hb); clear HB B4 HG HL; have HB := nHB_; have B4 := nB4_; clear nB4_; have HG := nHG_; clear nHG_; have HL := nHL_; clear nHL_; clear nHB_; have HT := nR_; clear nR_ ho0 hb; obtain ⟨gt, ct, e_, hgt, _, cl_, hcl_⟩ := Kd.R_form HT.out (by rw [HN.out]; exact HP.out); subst e_; have GT := Aside0.mk hgt; have NE := Aside0.mk (blk_ne B4.out hcl_ (by decide)); clear hgt hcl_)
                  | ((with_reducible refine gate_dst (N := 18) rfl ?_); refine box_event ?hg (N := 18) ?hd (cs := #[.slice none 0 0]) (t := 52) ?hr ?_; (case hd => rfl); (case hg => rfl); (case hr => first | (go_simp; done) | (go_simp; rfl)); intro g18 hg w_ hbox hb; have m0_ := Aside0.mk (by rw [hg]; exact below_size (by repeat (first | (with_reducible first | exact HB.out | apply below_alloc | apply pw_below_drewN | apply below_drew1) | exact HB.out)) : w.heap.size ≤ g18); have m1_ := Aside0.mk (below_step (by repeat (first | (with_reducible first | exact HB.out | apply below_alloc | apply pw_below_drewN | apply below_drew1) | exact HB.out)) hb); have o0_ := Aside0.mk (blk_below (by (with_reducible repeat (first | refine blk_drewN ?_ _ | refine blk_drew ?_ | refine blk_alloc ?_ _)); exact B4.out) hb); have q0_ := Aside0.mk (by rw [hg]; exact Nat.ne_of_gt (blk_lt (by (with_reducible repeat (first | refine blk_drewN ?_ _ | refine blk_drew ?_ | refine blk_alloc ?_ _)); exact B4.out)) : g18 ≠ g4); have h_ := Aside0.mk (Kd.R_below (Kd.R_elderB (by (with_reducible repeat (first | apply Kd.R_alloc | apply Kd.R_drewN | apply Kd.R_drew)); exact HT.out) g18 (Nat.le_of_eq hg.symm)) hb); have ht_ := Aside0.mk (by rw [hg]; exact Nat.ne_of_gt (Kd.R_lt (by (with_reducible repeat (first | apply Kd.R_alloc | apply Kd.R_drewN | apply Kd.R_drew)); exact HT.out) gt rfl) : g18 ≠ gt); clear HB B4 HT HG HL; have HB := m1_; have GEg18 := m0_; have NTg18 := ht_; clear m1_ m0_ ht_; have B4 := o0_; have N4 := q0_; clear o0_ q0_; have HT := h_; clear h_; have B18 := Aside0.mk hbox; clear hg hbox hb; have f0 : w_.cell? ⟨g18, 0, none⟩ = some (.slice none 0 0) := (blk_cell B18.out 0).trans rfl; have f1 := blk_frozen B18.out 0))
              have sB18_ := B18.out
              have sB4_ := B4.out
              have sHT_ := HT.out
              have sHB_ := HB.out
              have sB18_ := blk_put sB18_ 0 (.slice (some ⟨gt, 0, none⟩) T.length ct) rfl
              have sB4_ := blk_far sB4_ (p := ⟨g18, 0, none⟩) N4.out.symm (.slice (some ⟨gt, 0, none⟩) T.length ct)
              have sHT_ := Kd.R_far (p := ⟨g18, 0, none⟩) sHT_ (fun _ hk => hk.2) (.slice (some ⟨gt, 0, none⟩) T.length ct)
              have sHB_ := below_set sHB_ (j := 0) (v := .slice (some ⟨gt, 0, none⟩) T.length ct) GEg18.out
              have sHT_ := Kd.R_mono sHT_ (ok' := fun _ => True) (fun _ _ => trivial)
              generalize (w_.setCell ⟨g18, 0, none⟩ (.slice (some ⟨gt, 0, none⟩) T.length ct)) = w7 at sB18_ sB4_ sHT_ sHB_ ⊢
              clear B18 B4 HT HB
              have B18 := Aside0.mk sB18_
              have B4 := Aside0.mk sB4_
              have HT := Aside0.mk sHT_
              have HB := Aside0.mk sHB_
              clear sB18_ sB4_ sHT_ sHB_
              clear f0 f1
              have B18 : Aside0 (w7.heap[g18]? = some (.cells #[.slice (some ⟨gt, 0, none⟩) T.length ct] 52 (0, 0))) := ⟨B18.out⟩
              have m18 : w7.cell? ⟨g18, 0, none⟩ = some (.slice (some ⟨gt, 0, none⟩) T.length ct) := (blk_cell B18.out 0).trans rfl
              go_wp2
              clear m18
              go_loopg [152] (T.length + 1) (fun kq v152 w' => ∃ (i : Int), v152 = .int .i64 i ∧ Aside0 (0 ≤ i ∧ i + kq = T.length + 1 ∧ i ≤ T.length) ∧ Aside0 (Kd.R k56 56 w' w.heap.size (fun _ => True) (.slice (some ⟨gt, 0, none⟩) T.length ct) (upTo (V W) T i)) ∧ Aside0 (w'.heap[g18]? = some (.cells #[.slice (some ⟨gt, 0, none⟩) T.length ct] 52 (0, 0))) ∧ Aside0 (w'.heap[g4]? = some (.cells #[.int .i64 W, .int .i64 M] 44 (0, 0))) ∧ Aside0 (Below w.heap.size w w'))
              case atStart => exact ⟨0, (by first | rfl | (simp; done) | (simp [*]; done)), ⟨by omega⟩, ⟨by rw [upTo_zero]; exact (by (with_reducible repeat (first | apply Kd.R_alloc | apply Kd.R_drewN | apply Kd.R_drew)); exact HT.out)⟩, ⟨(by (with_reducible repeat (first | refine blk_drewN ?_ _ | refine blk_drew ?_ | refine blk_alloc ?_ _)); exact B18.out)⟩, ⟨(by (with_reducible repeat (first | refine blk_drewN ?_ _ | refine blk_drew ?_ | refine blk_alloc ?_ _)); exact B4.out)⟩, ⟨by repeat (first | (with_reducible first | exact HB.out | apply below_alloc | apply pw_below_drewN | apply below_drew1) | exact HB.out)⟩⟩
              case round =>
                obtain ⟨i, rfl, HI, HT, B18, B4, HB⟩ := hrel
                cases gk with
                | zero => exact absurd HI.out (by omega)
                | succ k1 =>
                  by_cases hi : i < (T.length : Int)
                  · have h0 := HI.out.1
                    have hlen : (upTo (V W) T i).length = T.length := upTo_len _ _ _
                    obtain ⟨x0, x1, x2, x3, xf⟩ := tool_at HT.out h0 hi
                    rw [upTo_rd (V W) T h0 hi] at x0 x1 x2 x3
                    have XR := Aside0.mk (show -400000 ≤ (rd_T56 T i).f2 ∧ (rd_T56 T i).f2 ≤ 400000 by rw [HTD.out]; exact D_range HD.out.1 _ h0 (by have := HN.out; omega))
                    have c8b := decide_eq_true hi
                    have p1 := eq_true h0
                    have p2 := eq_true hi
                    cases ch : (rd_T56 T i).f1 with
                    | true =>
                      rw [ch] at x2
                      go_upto_region 31 with (first | ((with_reducible refine gate_dst (N := 21) rfl ?_); refine box_event ?hg (N := 21) ?hd (cs := #[.int .i64 0, .int .i64 0, .bool false, .int .i64 0]) (t := 56) ?hr ?_; (case hd => rfl); (case hg => rfl); (case hr => first | (go_simp; done) | (go_simp; rfl)); intro g21 hg w_ hbox hb; have m0_ := Aside0.mk (by rw [hg]; exact below_size (by repeat (first | (with_reducible first | exact HB.out | apply below_alloc | apply pw_below_drewN | apply below_drew1) | exact HB.out)) : w.heap.size ≤ g21); have m1_ := Aside0.mk (below_step (by repeat (first | (with_reducible first | exact HB.out | apply below_alloc | apply pw_below_drewN | apply below_drew1) | exact HB.out)) hb); have o0_ := Aside0.mk (blk_below (by (with_reducible repeat (first | refine blk_drewN ?_ _ | refine blk_drew ?_ | refine blk_alloc ?_ _)); exact B4.out) hb); have q0_ := Aside0.mk (by rw [hg]; exact Nat.ne_of_gt (blk_lt (by (with_reducible repeat (first | refine blk_drewN ?_ _ | refine blk_drew ?_ | refine blk_alloc ?_ _)); exact B4.out)) : g21 ≠ g4); have o1_ := Aside0.mk (blk_below (by (with_reducible repeat (first | refine blk_drewN ?_ _ | refine blk_drew ?_ | refine blk_alloc ?_ _)); exact B18.out) hb); have q1_ := Aside0.mk (by rw [hg]; exact Nat.ne_of_gt (blk_lt (by (with_reducible repeat (first | refine blk_drewN ?_ _ | refine blk_drew ?_ | refine blk_alloc ?_ _)); exact B18.out)) : g21 ≠ g18); have h_ := Aside0.mk (Kd.R_below (Kd.R_elderB (by (with_reducible repeat (first | apply Kd.R_alloc | apply Kd.R_drewN | apply Kd.R_drew)); exact HT.out) g21 (Nat.le_of_eq hg.symm)) hb); have ht_ := Aside0.mk (by rw [hg]; exact Nat.ne_of_gt (Kd.R_lt (by (with_reducible repeat (first | apply Kd.R_alloc | apply Kd.R_drewN | apply Kd.R_drew)); exact HT.out) gt rfl) : g21 ≠ gt); clear HB B4 B18 HT ; have HB := m1_; have GEg21 := m0_; have NTg21 := ht_; clear m1_ m0_ ht_; have B4 := o0_; have N214 := q0_; clear o0_ q0_; have B18 := o1_; have N2118 := q1_; clear o1_ q1_; have HT := h_; clear h_; have B21 := Aside0.mk hbox; clear hg hbox hb; have z0 : w_.cell? ⟨g21, 0, none⟩ = some (.int .i64 0) := (blk_cell B21.out 0).trans rfl; have zf0 := blk_frozen B21.out 0; have z1 : w_.cell? ⟨g21, 1, none⟩ = some (.int .i64 0) := (blk_cell B21.out 1).trans rfl; have zf1 := blk_frozen B21.out 1; have z2 : w_.cell? ⟨g21, 2, none⟩ = some (.bool false) := (blk_cell B21.out 2).trans rfl; have zf2 := blk_frozen B21.out 2; have z3 : w_.cell? ⟨g21, 3, none⟩ = some (.int .i64 0) := (blk_cell B21.out 3).trans rfl; have zf3 := blk_frozen B21.out 3))
                      have sB21_ := B21.out
                      have sB4_ := B4.out
                      have sB18_ := B18.out
                      have sHT_ := HT.out
                      have sHB_ := HB.out
                      have sB21_ := blk_put sB21_ 0 (Value.int IntKind.i64 (rd_T56 T i).f0.f0) rfl
                      have sB4_ := blk_far sB4_ (p := ⟨g21, 0, none⟩) N214.out.symm (Value.int IntKind.i64 (rd_T56 T i).f0.f0)
                      have sB18_ := blk_far sB18_ (p := ⟨g21, 0, none⟩) N2118.out.symm (Value.int IntKind.i64 (rd_T56 T i).f0.f0)
                      have sHT_ := Kd.R_far (p := ⟨g21, 0, none⟩) sHT_ (fun _ hk => hk.2) (Value.int IntKind.i64 (rd_T56 T i).f0.f0)
                      have sHB_ := below_set sHB_ (j := 0) (v := Value.int IntKind.i64 (rd_T56 T i).f0.f0) GEg21.out
                      have sB21_ := blk_put sB21_ 1 (Value.int IntKind.i64 (rd_T56 T i).f0.f1) rfl
                      have sB4_ := blk_far sB4_ (p := ⟨g21, 1, none⟩) N214.out.symm (Value.int IntKind.i64 (rd_T56 T i).f0.f1)
                      have sB18_ := blk_far sB18_ (p := ⟨g21, 1, none⟩) N2118.out.symm (Value.int IntKind.i64 (rd_T56 T i).f0.f1)
                      have sHT_ := Kd.R_far (p := ⟨g21, 1, none⟩) sHT_ (fun _ hk => hk.2) (Value.int IntKind.i64 (rd_T56 T i).f0.f1)
                      have sHB_ := below_set sHB_ (j := 1) (v := Value.int IntKind.i64 (rd_T56 T i).f0.f1) GEg21.out
                      have sB21_ := blk_put sB21_ 2 (Value.bool true) rfl
                      have sB4_ := blk_far sB4_ (p := ⟨g21, 2, none⟩) N214.out.symm (Value.bool true)
                      have sB18_ := blk_far sB18_ (p := ⟨g21, 2, none⟩) N2118.out.symm (Value.bool true)
                      have sHT_ := Kd.R_far (p := ⟨g21, 2, none⟩) sHT_ (fun _ hk => hk.2) (Value.bool true)
                      have sHB_ := below_set sHB_ (j := 2) (v := Value.bool true) GEg21.out
                      have sB21_ := blk_put sB21_ 3 (Value.int IntKind.i64 (rd_T56 T i).f2) rfl
                      have sB4_ := blk_far sB4_ (p := ⟨g21, 3, none⟩) N214.out.symm (Value.int IntKind.i64 (rd_T56 T i).f2)
                      have sB18_ := blk_far sB18_ (p := ⟨g21, 3, none⟩) N2118.out.symm (Value.int IntKind.i64 (rd_T56 T i).f2)
                      have sHT_ := Kd.R_far (p := ⟨g21, 3, none⟩) sHT_ (fun _ hk => hk.2) (Value.int IntKind.i64 (rd_T56 T i).f2)
                      have sHB_ := below_set sHB_ (j := 3) (v := Value.int IntKind.i64 (rd_T56 T i).f2) GEg21.out
                      have sHT_ := Kd.R_mono sHT_ (ok' := fun _ => True) (fun _ _ => trivial)
                      generalize ((((w_.setCell ⟨g21, 0, none⟩ (Value.int IntKind.i64 (rd_T56 T i).f0.f0)).setCell ⟨g21, 1, none⟩ (Value.int IntKind.i64 (rd_T56 T i).f0.f1)).setCell ⟨g21, 2, none⟩ (Value.bool true)).setCell ⟨g21, 3, none⟩ (Value.int IntKind.i64 (rd_T56 T i).f2)) = w8 at sB21_ sB4_ sB18_ sHT_ sHB_ ⊢
                      clear B21 B4 B18 HT HB
                      have B21 := Aside0.mk sB21_
                      have B4 := Aside0.mk sB4_
                      have B18 := Aside0.mk sB18_
                      have HT := Aside0.mk sHT_
                      have HB := Aside0.mk sHB_
                      clear sB21_ sB4_ sB18_ sHT_ sHB_
                      clear x0 x1 x2 x3 xf z0 z1 z2 z3 zf0 zf1 zf2 zf3
                      have c21 : w8.cell? ⟨g21, 2, none⟩ = some (.bool true) := (blk_cell B21.out 2).trans rfl
                      go_wp2
                      go_roundg k1
                      case measure => omega
                      case rel => exact ⟨(wrap64 (i + 1)), (by first | rfl | (simp; done) | (simp [*]; done)), ⟨by have := HI.out; rw [up64 h0 (by have := HX.out; have := HN.out; omega)]; omega⟩, ⟨by rw [up64 h0 (by have := HX.out; have := HN.out; omega), upTo_same (V W) T h0 hi (by unfold V; rw [if_pos ch])]; exact (by (with_reducible repeat (first | apply Kd.R_alloc | apply Kd.R_drewN | apply Kd.R_drew)); exact HT.out)⟩, ⟨(by (with_reducible repeat (first | refine blk_drewN ?_ _ | refine blk_drew ?_ | refine blk_alloc ?_ _)); exact B18.out)⟩, ⟨(by (with_reducible repeat (first | refine blk_drewN ?_ _ | refine blk_drew ?_ | refine blk_alloc ?_ _)); exact B4.out)⟩, ⟨by repeat (first | (with_reducible first | exact HB.out | apply below_alloc | apply pw_below_drewN | apply below_drew1) | exact HB.out)⟩⟩
                    | false =>
                      rw [ch] at x2
                      go_upto_region 31 with (first | ((with_reducible refine gate_dst (N := 21) rfl ?_); refine box_event ?hg (N := 21) ?hd (cs := #[.int .i64 0, .int .i64 0, .bool false, .int .i64 0]) (t := 56) ?hr ?_; (case hd => rfl); (case hg => rfl); (case hr => first | (go_simp; done) | (go_simp; rfl)); intro g21 hg w_ hbox hb; have m0_ := Aside0.mk (by rw [hg]; exact below_size (by repeat (first | (with_reducible first | exact HB.out | apply below_alloc | apply pw_below_drewN | apply below_drew1) | exact HB.out)) : w.heap.size ≤ g21); have m1_ := Aside0.mk (below_step (by repeat (first | (with_reducible first | exact HB.out | apply below_alloc | apply pw_below_drewN | apply below_drew1) | exact HB.out)) hb); have o0_ := Aside0.mk (blk_below (by (with_reducible repeat (first | refine blk_drewN ?_ _ | refine blk_drew ?_ | refine blk_alloc ?_ _)); exact B4.out) hb); have q0_ := Aside0.mk (by rw [hg]; exact Nat.ne_of_gt (blk_lt (by (with_reducible repeat (first | refine blk_drewN ?_ _ | refine blk_drew ?_ | refine blk_alloc ?_ _)); exact B4.out)) : g21 ≠ g4); have o1_ := Aside0.mk (blk_below (by (with_reducible repeat (first | refine blk_drewN ?_ _ | refine blk_drew ?_ | refine blk_alloc ?_ _)); exact B18.out) hb); have q1_ := Aside0.mk (by rw [hg]; exact Nat.ne_of_gt (blk_lt (by (with_reducible repeat (first | refine blk_drewN ?_ _ | refine blk_drew ?_ | refine blk_alloc ?_ _)); exact B18.out)) : g21 ≠ g18); have h_ := Aside0.mk (Kd.R_below (Kd.R_elderB (by (with_reducible repeat (first | apply Kd.R_alloc | apply Kd.R_drewN | apply Kd.R_drew)); exact HT.out) g21 (Nat.le_of_eq hg.symm)) hb); have ht_ := Aside0.mk (by rw [hg]; exact Nat.ne_of_gt (Kd.R_lt (by (with_reducible repeat (first | apply Kd.R_alloc | apply Kd.R_drewN | apply Kd.R_drew)); exact HT.out) gt rfl) : g21 ≠ gt); clear HB B4 B18 HT ; have HB := m1_; have GEg21 := m0_; have NTg21 := ht_; clear m1_ m0_ ht_; have B4 := o0_; have N214 := q0_; clear o0_ q0_; have B18 := o1_; have N2118 := q1_; clear o1_ q1_; have HT := h_; clear h_; have B21 := Aside0.mk hbox; clear hg hbox hb; have z0 : w_.cell? ⟨g21, 0, none⟩ = some (.int .i64 0) := (blk_cell B21.out 0).trans rfl; have zf0 := blk_frozen B21.out 0; have z1 : w_.cell? ⟨g21, 1, none⟩ = some (.int .i64 0) := (blk_cell B21.out 1).trans rfl; have zf1 := blk_frozen B21.out 1; have z2 : w_.cell? ⟨g21, 2, none⟩ = some (.bool false) := (blk_cell B21.out 2).trans rfl; have zf2 := blk_frozen B21.out 2; have z3 : w_.cell? ⟨g21, 3, none⟩ = some (.int .i64 0) := (blk_cell B21.out 3).trans rfl; have zf3 := blk_frozen B21.out 3))
                      have sB21_ := B21.out
                      have sB4_ := B4.out
                      have sB18_ := B18.out
                      have sHT_ := HT.out
                      have sHB_ := HB.out
                      have sB21_ := blk_put sB21_ 0 (Value.int IntKind.i64 (rd_T56 T i).f0.f0) rfl
                      have sB4_ := blk_far sB4_ (p := ⟨g21, 0, none⟩) N214.out.symm (Value.int IntKind.i64 (rd_T56 T i).f0.f0)
                      have sB18_ := blk_far sB18_ (p := ⟨g21, 0, none⟩) N2118.out.symm (Value.int IntKind.i64 (rd_T56 T i).f0.f0)
                      have sHT_ := Kd.R_far (p := ⟨g21, 0, none⟩) sHT_ (fun _ hk => hk.2) (Value.int IntKind.i64 (rd_T56 T i).f0.f0)
                      have sHB_ := below_set sHB_ (j := 0) (v := Value.int IntKind.i64 (rd_T56 T i).f0.f0) GEg21.out
                      have sB21_ := blk_put sB21_ 1 (Value.int IntKind.i64 (rd_T56 T i).f0.f1) rfl
                      have sB4_ := blk_far sB4_ (p := ⟨g21, 1, none⟩) N214.out.symm (Value.int IntKind.i64 (rd_T56 T i).f0.f1)
                      have sB18_ := blk_far sB18_ (p := ⟨g21, 1, none⟩) N2118.out.symm (Value.int IntKind.i64 (rd_T56 T i).f0.f1)
                      have sHT_ := Kd.R_far (p := ⟨g21, 1, none⟩) sHT_ (fun _ hk => hk.2) (Value.int IntKind.i64 (rd_T56 T i).f0.f1)
                      have sHB_ := below_set sHB_ (j := 1) (v := Value.int IntKind.i64 (rd_T56 T i).f0.f1) GEg21.out
                      have sB21_ := blk_put sB21_ 2 (Value.bool false) rfl
                      have sB4_ := blk_far sB4_ (p := ⟨g21, 2, none⟩) N214.out.symm (Value.bool false)
                      have sB18_ := blk_far sB18_ (p := ⟨g21, 2, none⟩) N2118.out.symm (Value.bool false)
                      have sHT_ := Kd.R_far (p := ⟨g21, 2, none⟩) sHT_ (fun _ hk => hk.2) (Value.bool false)
                      have sHB_ := below_set sHB_ (j := 2) (v := Value.bool false) GEg21.out
                      have sB21_ := blk_put sB21_ 3 (Value.int IntKind.i64 (rd_T56 T i).f2) rfl
                      have sB4_ := blk_far sB4_ (p := ⟨g21, 3, none⟩) N214.out.symm (Value.int IntKind.i64 (rd_T56 T i).f2)
                      have sB18_ := blk_far sB18_ (p := ⟨g21, 3, none⟩) N2118.out.symm (Value.int IntKind.i64 (rd_T56 T i).f2)
                      have sHT_ := Kd.R_far (p := ⟨g21, 3, none⟩) sHT_ (fun _ hk => hk.2) (Value.int IntKind.i64 (rd_T56 T i).f2)
                      have sHB_ := below_set sHB_ (j := 3) (v := Value.int IntKind.i64 (rd_T56 T i).f2) GEg21.out
                      have sHT_ := Kd.R_mono sHT_ (ok' := fun _ => True) (fun _ _ => trivial)
                      generalize ((((w_.setCell ⟨g21, 0, none⟩ (Value.int IntKind.i64 (rd_T56 T i).f0.f0)).setCell ⟨g21, 1, none⟩ (Value.int IntKind.i64 (rd_T56 T i).f0.f1)).setCell ⟨g21, 2, none⟩ (Value.bool false)).setCell ⟨g21, 3, none⟩ (Value.int IntKind.i64 (rd_T56 T i).f2)) = w8 at sB21_ sB4_ sB18_ sHT_ sHB_ ⊢
                      clear B21 B4 B18 HT HB
                      have B21 := Aside0.mk sB21_
                      have B4 := Aside0.mk sB4_
                      have B18 := Aside0.mk sB18_
                      have HT := Aside0.mk sHT_
                      have HB := Aside0.mk sHB_
                      clear sB21_ sB4_ sB18_ sHT_ sHB_
                      clear x0 x1 x2 x3 xf z0 z1 z2 z3 zf0 zf1 zf2 zf3
                      have c21 : w8.cell? ⟨g21, 2, none⟩ = some (.bool false) := (blk_cell B21.out 2).trans rfl
                      obtain ⟨x0, x1, x2, x3, xf⟩ := tool_at HT.out h0 hi
                      rw [upTo_rd (V W) T h0 hi] at x0 x1 x2 x3
                      have m18 : w8.cell? ⟨g18, 0, none⟩ = some (.slice (some ⟨gt, 0, none⟩) T.length ct) := (blk_cell B18.out 0).trans rfl
                      have m0 : w8.cell? ⟨g4, 0, none⟩ = some (.int .i64 W) := (blk_cell B4.out 0).trans rfl
                      go_wp2
                      go_region_with (fail)
                      all_goals (
                        have HP := put_size HT.out h0 hi (IntKind.i64.wrap ((rd_T56 T i).f2 - IntKind.i64.wrap (W + 1)))
                        rw [upTo_rd (V W) T h0 hi, V_size XR.out HX.out.1 ch, upTo_set (V W) T h0 hi] at HP
                        have B42 := blk_far B4.out (p := ⟨gt, i.toNat * 4 + 3, none⟩) NE.out (.int .i64 (IntKind.i64.wrap ((rd_T56 T i).f2 - IntKind.i64.wrap (W + 1))))
                        have B182 := blk_far B18.out (p := ⟨gt, i.toNat * 4 + 3, none⟩) NTg18.out (.int .i64 (IntKind.i64.wrap ((rd_T56 T i).f2 - IntKind.i64.wrap (W + 1))))
                        have HBN := below_set HB.out (j := i.toNat * 4 + 3) (v := .int .i64 (IntKind.i64.wrap ((rd_T56 T i).f2 - IntKind.i64.wrap (W + 1)))) GT.out
                        have HP1 := HP.1
                        clear HP
                        generalize w8.setCell ⟨gt, i.toNat * 4 + 3, none⟩ (.int .i64 (IntKind.i64.wrap ((rd_T56 T i).f2 - IntKind.i64.wrap (W + 1)))) = w9 at HP1 B42 B182 HBN ⊢
                        clear HT B4 B18 HB B21 x0 x1 x2 x3 xf m18 m0 c21
                        have HT := Aside0.mk HP1
                        have B4 := Aside0.mk B42
                        have B18 := Aside0.mk B182
                        have HB := Aside0.mk HBN
                        clear HP1 B42 B182 HBN
                        go_wp2
                        go_roundg k1
                        case measure => omega
                        case rel => exact ⟨(wrap64 (i + 1)), (by first | rfl | (simp; done) | (simp [*]; done)), ⟨by have := HI.out; rw [up64 h0 (by have := HX.out; have := HN.out; omega)]; omega⟩, ⟨by rw [up64 h0 (by have := HX.out; have := HN.out; omega)]; exact (by (with_reducible repeat (first | apply Kd.R_alloc | apply Kd.R_drewN | apply Kd.R_drew)); exact HT.out)⟩, ⟨(by (with_reducible repeat (first | refine blk_drewN ?_ _ | refine blk_drew ?_ | refine blk_alloc ?_ _)); exact B18.out)⟩, ⟨(by (with_reducible repeat (first | refine blk_drewN ?_ _ | refine blk_drew ?_ | refine blk_alloc ?_ _)); exact B4.out)⟩, ⟨by repeat (first | (with_reducible first | exact HB.out | apply below_alloc | apply pw_below_drewN | apply below_drew1) | exact HB.out)⟩⟩)
                  · have h0 := HI.out.1
                    have hlen : (upTo (V W) T i).length = T.length := upTo_len _ _ _
                    have HT2 := HT.out
                    rw [upTo_end (V W) T (i := i) (by omega), show T.map (V W) = E W M l by rw [HTD.out]; rfl] at HT2
                    clear HT
                    have HT := Aside0.mk HT2
                    clear HT2
                    have hel : (E W M l).length = T.length := by rw [E_len, HN.out]
                    have hsz : T.length ≤ 16 := by have := HX.out.2.2; have := HN.out; omega
                    have LM := Aside0.mk hel
                    have c8b := decide_eq_false hi
                    have AFD := find_ok 60 (E W M l) (by omega) (by omega)
                    cases hsm : small (E W M l) with
                    | true =>
                      rw [hsm] at AFD
                      have AFD := Aside0.mk AFD
                      obtain ⟨ws, hws⟩ : ∃ ws, ws = wo l (E W M l) := ⟨_, rfl⟩
                      obtain ⟨zs, hzs⟩ : ∃ zs, zs = wz l (E W M l) := ⟨_, rfl⟩
                      have AWN := Aside0.mk (show gauge_Worn.f 60 l (E W M l) = some (ws, zs) by rw [gworn 60 (by omega), hws, hzs])
                      clear hws hzs hsm
                      generalize E W M l = Em at *
                      have m18 : wr.cell? ⟨g18, 0, none⟩ = some (.slice (some ⟨gt, 0, none⟩) T.length ct) := (blk_cell B18.out 0).trans rfl
                      go_wp2_with (first | (go_at_call 36; (with_reducible refine (@worn_at 60 A0 c0 l (some ⟨gt, 0, none⟩) ct Em ws zs _ T.length LM.out ?side1 ?side2 ?side3 ?side4 AWN.out (by exact sig_below HS.out (by repeat (first | (with_reducible first | exact HB.out | apply below_alloc | apply pw_below_drewN | apply below_drew1) | exact HB.out)))).mono ?_); (case side1 => repeat (first | exact (Kd.C_below HR0.out HB.out) | (with_reducible refine Kd.C_alloc ?_ _) | (with_reducible refine Kd.C_drewN ?_ _) | (with_reducible refine Kd.C_drew ?_))); (case side2 => exact HC0.out); (case side3 => repeat (first | exact (Kd.R_reads' HT.out).2.2 | (with_reducible refine Kd.C_alloc ?_ _) | (with_reducible refine Kd.C_drewN ?_ _) | (with_reducible refine Kd.C_drew ?_))); (case side4 => exact (Kd.R_reads' HT.out).2.1); rintro e w_ ⟨v_, rfl, ho0, hb⟩; have nR_ := Aside0.mk (Kd.R_lower ho0 (below_size (by repeat (first | (with_reducible first | exact HB.out | apply below_alloc | apply pw_below_drewN | apply below_drew1) | exact HB.out)))); have nB18_ := Aside0.mk (blk_below (by (with_reducible repeat (first | refine blk_drewN ?_ _ | refine blk_drew ?_ | refine blk_alloc ?_ _)); exact B18.out) hb); have nHT_ := Aside0.mk (Kd.R_below (by (with_reducible repeat (first | apply Kd.R_alloc | apply Kd.R_drewN | apply Kd.R_drew)); exact HT.out) hb); have nHB_ := Aside0.mk (below_step (by repeat (first | (with_reducible first | exact HB.out | apply below_alloc | apply pw_below_drewN | apply below_drew1) | exact HB.out)) hb); clear HB B18 HT; have HB := nHB_; have B18 := nB18_; clear nB18_; have HT := nHT_; clear nHT_; clear nHB_; have HW := nR_; clear nR_ ho0 hb; obtain ⟨Aw, cw, e_⟩ := Kd.R_slice HW.out; subst e_; clear m18; have m18 : w_.cell? ⟨g18, 0, none⟩ = some (.slice (some ⟨gt, 0, none⟩) T.length ct) := (blk_cell B18.out 0).trans rfl) | (go_at_call 37; (with_reducible refine (@find_at 60 (some ⟨gt, 0, none⟩) ct Em true _ T.length LM.out ?side1 ?side2 AFD.out).mono ?_); (case side1 => repeat (first | exact (Kd.R_reads' HT.out).2.2 | (with_reducible refine Kd.C_alloc ?_ _) | (with_reducible refine Kd.C_drewN ?_ _) | (with_reducible refine Kd.C_drew ?_))); (case side2 => exact (Kd.R_reads' HT.out).2.1); rintro e w_ ⟨rfl, hb⟩; have nB18_ := Aside0.mk (blk_below (by (with_reducible repeat (first | refine blk_drewN ?_ _ | refine blk_drew ?_ | refine blk_alloc ?_ _)); exact B18.out) hb); have nHT_ := Aside0.mk (Kd.R_below (by (with_reducible repeat (first | apply Kd.R_alloc | apply Kd.R_drewN | apply Kd.R_drew)); exact HT.out) hb); have nHW_ := Aside0.mk (Kd.R_below (by (with_reducible repeat (first | apply Kd.R_alloc | apply Kd.R_drewN | apply Kd.R_drew)); exact HW.out) hb); have nHB_ := Aside0.mk (below_step (by repeat (first | (with_reducible first | exact HB.out | apply below_alloc | apply pw_below_drewN | apply below_drew1) | exact HB.out)) hb); clear HB B18 HT HW; have HB := nHB_; have B18 := nB18_; clear nB18_; have HT := nHT_; clear nHT_; have HW := nHW_; clear nHW_; clear nHB_; clear hb; clear m18; have m18 : w_.cell? ⟨g18, 0, none⟩ = some (.slice (some ⟨gt, 0, none⟩) T.length ct) := (blk_cell B18.out 0).trans rfl))
                      go_ret
                      exact ⟨rfl, by repeat (first | (with_reducible first | exact HB.out | apply below_alloc | apply pw_below_drewN | apply below_drew1) | exact HB.out)⟩
                    | false =>
                      rw [hsm] at AFD
                      have AFD := Aside0.mk AFD
                      obtain ⟨z1, o1⟩ := lasts_last HD.out.1 (small_not hsm)
                      obtain ⟨ws, hws⟩ : ∃ ws, ws = idxs 0 (l.map (fun t => !t.f4)) := ⟨_, rfl⟩
                      obtain ⟨zs, hzs⟩ : ∃ zs : Int, zs = 0 := ⟨_, rfl⟩
                      have AWN := Aside0.mk (show gauge_Worn.f 60 l (E W M l) = some (ws, zs) by rw [gworn 60 (by omega), z1, o1, hws, hzs])
                      have hwl : ws.length ≤ 16 := by rw [hws]; exact idxs_len16 HX.out.2.2
                      have AHO := Aside0.mk (show @slices_ContainsFunc_int_int.f (Dat40.mk (E W M l)) 60 ws = some false from hole_ok 60 _ ws (by omega) (by omega) (by rw [hws]; exact last_holes))
                      obtain ⟨pc, hpc⟩ : ∃ pc, pc = cnt ((E W M l).map (fun x => !x.f1)) := ⟨_, rfl⟩
                      have API := Aside0.mk (show metrolablaw47_pins.f 60 (E W M l) = some pc by rw [pins_ok 60 _ (by omega) (by omega), hpc])
                      have qc : ((ws.length : Int) == pc) = true := beq_iff_eq.mpr (by rw [hws, hpc, idxs_cnt, E_f1])
                      subst hzs
                      clear hws hpc hsm z1 o1 hwl
                      generalize E W M l = Em at *
                      have m18 : wr.cell? ⟨g18, 0, none⟩ = some (.slice (some ⟨gt, 0, none⟩) T.length ct) := (blk_cell B18.out 0).trans rfl
                      go_wp2_with (first | (go_at_call 36; (with_reducible refine (@worn_at 60 A0 c0 l (some ⟨gt, 0, none⟩) ct Em ws 0 _ T.length LM.out ?side1 ?side2 ?side3 ?side4 AWN.out (by exact sig_below HS.out (by repeat (first | (with_reducible first | exact HB.out | apply below_alloc | apply pw_below_drewN | apply below_drew1) | exact HB.out)))).mono ?_); (case side1 => repeat (first | exact (Kd.C_below HR0.out HB.out) | (with_reducible refine Kd.C_alloc ?_ _) | (with_reducible refine Kd.C_drewN ?_ _) | (with_reducible refine Kd.C_drew ?_))); (case side2 => exact HC0.out); (case side3 => repeat (first | exact (Kd.R_reads' HT.out).2.2 | (with_reducible refine Kd.C_alloc ?_ _) | (with_reducible refine Kd.C_drewN ?_ _) | (with_reducible refine Kd.C_drew ?_))); (case side4 => exact (Kd.R_reads' HT.out).2.1); rintro e w_ ⟨v_, rfl, ho0, hb⟩; have nR_ := Aside0.mk (Kd.R_lower ho0 (below_size (by repeat (first | (with_reducible first | exact HB.out | apply below_alloc | apply pw_below_drewN | apply below_drew1) | exact HB.out)))); have nB18_ := Aside0.mk (blk_below (by (with_reducible repeat (first | refine blk_drewN ?_ _ | refine blk_drew ?_ | refine blk_alloc ?_ _)); exact B18.out) hb); have nHT_ := Aside0.mk (Kd.R_below (by (with_reducible repeat (first | apply Kd.R_alloc | apply Kd.R_drewN | apply Kd.R_drew)); exact HT.out) hb); have nHB_ := Aside0.mk (below_step (by repeat (first | (with_reducible first | exact HB.out | apply below_alloc | apply pw_below_drewN | apply below_drew1) | exact HB.out)) hb); clear HB B18 HT; have HB := nHB_; have B18 := nB18_; clear nB18_; have HT := nHT_; clear nHT_; clear nHB_; have HW := nR_; clear nR_ ho0 hb; obtain ⟨Aw, cw, e_⟩ := Kd.R_slice HW.out; subst e_; clear m18; have m18 : w_.cell? ⟨g18, 0, none⟩ = some (.slice (some ⟨gt, 0, none⟩) T.length ct) := (blk_cell B18.out 0).trans rfl) | (go_at_call 37; (with_reducible refine (@find_at 60 (some ⟨gt, 0, none⟩) ct Em false _ T.length LM.out ?side1 ?side2 AFD.out).mono ?_); (case side1 => repeat (first | exact (Kd.R_reads' HT.out).2.2 | (with_reducible refine Kd.C_alloc ?_ _) | (with_reducible refine Kd.C_drewN ?_ _) | (with_reducible refine Kd.C_drew ?_))); (case side2 => exact (Kd.R_reads' HT.out).2.1); rintro e w_ ⟨rfl, hb⟩; have nB18_ := Aside0.mk (blk_below (by (with_reducible repeat (first | refine blk_drewN ?_ _ | refine blk_drew ?_ | refine blk_alloc ?_ _)); exact B18.out) hb); have nHT_ := Aside0.mk (Kd.R_below (by (with_reducible repeat (first | apply Kd.R_alloc | apply Kd.R_drewN | apply Kd.R_drew)); exact HT.out) hb); have nHW_ := Aside0.mk (Kd.R_below (by (with_reducible repeat (first | apply Kd.R_alloc | apply Kd.R_drewN | apply Kd.R_drew)); exact HW.out) hb); have nHB_ := Aside0.mk (below_step (by repeat (first | (with_reducible first | exact HB.out | apply below_alloc | apply pw_below_drewN | apply below_drew1) | exact HB.out)) hb); clear HB B18 HT HW; have HB := nHB_; have B18 := nB18_; clear nB18_; have HT := nHT_; clear nHT_; have HW := nHW_; clear nHW_; clear nHB_; clear hb; clear m18; have m18 : w_.cell? ⟨g18, 0, none⟩ = some (.slice (some ⟨gt, 0, none⟩) T.length ct) := (blk_cell B18.out 0).trans rfl) | (go_at_call 39; (with_reducible refine (@hole_at Em g18 (some ⟨gt, 0, none⟩) ct T.length LM.out 60 Aw cw ws false _ ?side1 ?side2 AHO.out ?side3 ?side4).mono ?_); (case side1 => repeat (first | exact (Kd.R_reads' HW.out).2.2 | (with_reducible refine Kd.C_alloc ?_ _) | (with_reducible refine Kd.C_drewN ?_ _) | (with_reducible refine Kd.C_drew ?_))); (case side2 => exact (Kd.R_reads' HW.out).2.1); (case side3 => exact (by (with_reducible repeat (first | refine blk_drewN ?_ _ | refine blk_drew ?_ | refine blk_alloc ?_ _)); exact B18.out)); (case side4 => repeat (first | exact (Kd.R_reads' HT.out).2.2 | (with_reducible refine Kd.C_alloc ?_ _) | (with_reducible refine Kd.C_drewN ?_ _) | (with_reducible refine Kd.C_drew ?_))); rintro e w_ ⟨rfl, hb⟩; have nB18_ := Aside0.mk (blk_below (by (with_reducible repeat (first | refine blk_drewN ?_ _ | refine blk_drew ?_ | refine blk_alloc ?_ _)); exact B18.out) hb); have nHT_ := Aside0.mk (Kd.R_below (by (with_reducible repeat (first | apply Kd.R_alloc | apply Kd.R_drewN | apply Kd.R_drew)); exact HT.out) hb); have nHW_ := Aside0.mk (Kd.R_below (by (with_reducible repeat (first | apply Kd.R_alloc | apply Kd.R_drewN | apply Kd.R_drew)); exact HW.out) hb); have nHB_ := Aside0.mk (below_step (by repeat (first | (with_reducible first | exact HB.out | apply below_alloc | apply pw_below_drewN | apply below_drew1) | exact HB.out)) hb); clear HB B18 HT HW; have HB := nHB_; have B18 := nB18_; clear nB18_; have HT := nHT_; clear nHT_; have HW := nHW_; clear nHW_; clear nHB_; clear hb; clear m18; have m18 : w_.cell? ⟨g18, 0, none⟩ = some (.slice (some ⟨gt, 0, none⟩) T.length ct) := (blk_cell B18.out 0).trans rfl) | (go_at_call 41; (with_reducible refine (@pins_at 60 (some ⟨gt, 0, none⟩) ct Em pc _ T.length LM.out ?side1 ?side2 API.out).mono ?_); (case side1 => repeat (first | exact (Kd.R_reads' HT.out).2.2 | (with_reducible refine Kd.C_alloc ?_ _) | (with_reducible refine Kd.C_drewN ?_ _) | (with_reducible refine Kd.C_drew ?_))); (case side2 => exact (Kd.R_reads' HT.out).2.1); rintro e w_ ⟨rfl, hb⟩; have nB18_ := Aside0.mk (blk_below (by (with_reducible repeat (first | refine blk_drewN ?_ _ | refine blk_drew ?_ | refine blk_alloc ?_ _)); exact B18.out) hb); have nHT_ := Aside0.mk (Kd.R_below (by (with_reducible repeat (first | apply Kd.R_alloc | apply Kd.R_drewN | apply Kd.R_drew)); exact HT.out) hb); have nHW_ := Aside0.mk (Kd.R_below (by (with_reducible repeat (first | apply Kd.R_alloc | apply Kd.R_drewN | apply Kd.R_drew)); exact HW.out) hb); have nHB_ := Aside0.mk (below_step (by repeat (first | (with_reducible first | exact HB.out | apply below_alloc | apply pw_below_drewN | apply below_drew1) | exact HB.out)) hb); clear HB B18 HT HW; have HB := nHB_; have B18 := nB18_; clear nB18_; have HT := nHT_; clear nHT_; have HW := nHW_; clear nHW_; clear nHB_; clear hb; clear m18; have m18 : w_.cell? ⟨g18, 0, none⟩ = some (.slice (some ⟨gt, 0, none⟩) T.length ct) := (blk_cell B18.out 0).trans rfl) | (go_at_call 30; (with_reducible refine (metrolablaw47_awake.calls 60 true _ awake_60 (by exact sig_below HS.out (by repeat (first | (with_reducible first | exact HB.out | apply below_alloc | apply pw_below_drewN | apply below_drew1) | exact HB.out)))).mono ?_); rintro e w_ ⟨rfl, hb⟩; have nHB_ := Aside0.mk (below_step (by repeat (first | (with_reducible first | exact HB.out | apply below_alloc | apply pw_below_drewN | apply below_drew1) | exact HB.out)) hb); clear HB ; have HB := nHB_; clear nHB_; clear hb))
                      go_ret
                      exact ⟨rfl, by repeat (first | (with_reducible first | exact HB.out | apply below_alloc | apply pw_below_drewN | apply below_drew1) | exact HB.out)⟩
end Go.Proofs.YtjemaonejkepcaaDoor.G
namespace Go.Proofs.YtjemaonejkepcaaDoor.G
open Go.Proofs.YtjemaonejkepcaaDoor.B
open Go.RowKit Go.Proofs.YtjemaonejkepcaaDoorW.PrintWords Go.Proofs.YtjemaonejkepcaaDoorW.PrintLast
set_option linter.unusedVariables false
def metrolablaw47_GaugeLasts.f (k : Nat) (l : List S27) (W M : Int) (by_ : Int) : Option Bool := if 0 ≤ by_ ∧ by_ ≤ 65535 then some true else none
theorem metrolablaw47_GaugeLasts.calls (k : Nat) (A0 : Option Addr) (c0 : Nat) (l : List S27) (W M by_ : Int) (r : Bool) (w : World) (hr0 : Kd.C k27 w A0 l.length l) (hc0 : l.length ≤ c0) (h : metrolablaw47_GaugeLasts.f k l W M by_ = some r) (hS : SignsAt w) :
    Calls Tryd.prog 6 #[.slice A0 l.length c0, .agg #[.int .i64 W, .int .i64 M], .int .u16 by_] w fun e w' => e = .returned (.bool r) ∧ Below w.heap.size w w' := by
  unfold metrolablaw47_GaugeLasts.f at h
  by_cases hb : 0 ≤ by_ ∧ by_ ≤ 65535
  · rw [if_pos hb] at h
    obtain rfl := Option.some.inj h
    by_cases hn : (l.length : Int) ≤ 32
    · by_cases hd : dz W M l = 0
      · exact lasts_some A0 c0 l W M by_ w hr0 hc0 hS hn hd hb
      · exact lasts_none A0 c0 l W M by_ w hr0 hc0 hS hn hd
    · exact lasts_many A0 c0 l W M by_ w hr0 hc0 hS hn
  · rw [if_neg hb] at h; cases h
theorem lasts_pure (l : List S27) (W M by_ : Int) (wf : (Lit.int .u16 by_).wf = true) : ∃ k, metrolablaw47_GaugeLasts.f k l W M by_ = some true := by
  have hb := Go.bounds_u16 wf
  exact ⟨0, by unfold metrolablaw47_GaugeLasts.f; rw [if_pos (by omega)]⟩
end Go.Proofs.YtjemaonejkepcaaDoor.G
