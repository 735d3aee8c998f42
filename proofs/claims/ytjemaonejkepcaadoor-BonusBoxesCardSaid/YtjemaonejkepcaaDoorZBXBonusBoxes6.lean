/- Texts of the law BonusBoxes, laid together by a program of this session; what is not reached is cut. In it: words that the kit's print.sh printed, contracts of Go functions printed over the kit's printer, our own laws. Not trusted: Lean checks them. -/
import Derived.Test.YtjemaonejkepcaaDoorZBXBonusBoxes5
import Derived.Deep.RegionWith
import Derived.OpenShut
namespace Go.Proofs.YtjemaonejkepcaaDoor.B
open Go.RowKit Go.Proofs.YtjemaonejkepcaaDoorW.PrintWords Go.Proofs.YtjemaonejkepcaaDoorW.PrintLast Go.Proofs.YtjemaonejkepcaaDoorW.PrintMore
attribute [local go_sem] max2_int min2_int max_two min_two max_three min_three max_four min_four   -- for this text's walks alone
set_option linter.unusedVariables false
set_option linter.unusedSimpArgs false
set_option maxHeartbeats 8000000 in
set_option maxRecDepth 100000 in
theorem boxes_tt11 (x y lo hi tol mat : Int) (pin : Bool) (u v s m : Int) (w : World) (hS : SignsAt w) (zw : Int) (hzw : zw ≠ 0) (hC : metrolabref44_Check.f 9 x y lo hi tol mat pin = some 0) (hR : metrolabref44_Ring.f u v s = some 0) (hK : bonus_Keeps.f 9 x y lo hi tol mat pin u v s = some (true, 0)) (hB : bonus_KeepsBox.f 9 x y lo hi tol mat pin u v s = some (true, 0)) (hW : metrolabref44_Check.f 9 x y lo hi (wrap64 (tol + wrap64 m)) mat pin = some zw) (n : Int) (hL : bonus_Allowed.f 9 x y lo hi tol mat pin s = some (n, 0)) (zh : Int) (hzh : zh ≠ 0) (hH : metrolabref44_Check.f 9 x y lo hi (wrap64 (tol + wrap64 (Int.tdiv (wrap64 (n + 1)) 2))) mat pin = some zh) :
    Calls Tryd.prog 10 #[.agg #[.int .i64 x, .int .i64 y, .int .i64 lo, .int .i64 hi, .int .i64 tol, .int .i64 mat, .bool pin], .agg #[.int .i64 u, .int .i64 v, .int .i64 s], .int .u8 m] w fun e w' => e = .returned (.bool true) ∧ Below w.heap.size w w' := by
  have hu27 := Tryd.underlying27
  have hu68 := Tryd.underlying68
  have HS := Aside0.mk hS
  have HB := Aside0.mk (Below.refl w.heap.size w)
  have AA := Aside0.mk (show metrolablaw44_awake.f = some true from rfl)
  clear hS
  have hz0 : (zw == 0) = false := beq_eq_false_iff_ne.mpr hzw
  clear hzw
  have AC := Aside0.mk hC
  clear hC
  have AR := Aside0.mk hR
  clear hR
  have AK := Aside0.mk hK
  clear hK
  have AB := Aside0.mk hB
  clear hB
  have AW := Aside0.mk hW
  clear hW
  have AL := Aside0.mk hL
  clear hL
  have hz2 : (zh != 0) = true := bne_iff_ne.mpr hzh
  clear hzh
  have AH := Aside0.mk hH
  clear hH
  go_enter Tryd.func10, Tryd.ntmps10
  go_upto_region 8 with (first
    | ((with_reducible refine gate_dst (N := 3) rfl ?_); refine box_event ?hg (N := 3) ?hd (cs := #[.int .i64 x, .int .i64 y, .int .i64 lo, .int .i64 hi, .int .i64 tol, .int .i64 mat, .bool pin]) (t := 27) ?hr ?_; (case hd => rfl); (case hg => rfl); (case hr => first | (go_simp; done) | (go_simp; rfl)); intro g3 hg w_ hbox hb; have GEg3 := Aside0.mk (by rw [hg]; exact below_size (by repeat (first | (with_reducible first | exact HB.out | apply below_alloc | apply pw_below_drewN | apply below_drew1) | exact HB.out)) : w.heap.size ≤ g3); have nHB_ := Aside0.mk (below_step (by repeat (first | (with_reducible first | exact HB.out | apply below_alloc | apply pw_below_drewN | apply below_drew1) | exact HB.out)) hb); clear HB ; have HB := nHB_; clear nHB_; have B3 := Aside0.mk hbox; clear hg hbox hb; have p0 : w_.cell? ⟨g3, 0, none⟩ = some (.int .i64 x) := (blk_cell B3.out 0).trans rfl; have p1 : w_.cell? ⟨g3, 1, none⟩ = some (.int .i64 y) := (blk_cell B3.out 1).trans rfl; have p2 : w_.cell? ⟨g3, 2, none⟩ = some (.int .i64 lo) := (blk_cell B3.out 2).trans rfl; have p3 : w_.cell? ⟨g3, 3, none⟩ = some (.int .i64 hi) := (blk_cell B3.out 3).trans rfl; have p4 : w_.cell? ⟨g3, 4, none⟩ = some (.int .i64 tol) := (blk_cell B3.out 4).trans rfl; have p5 : w_.cell? ⟨g3, 5, none⟩ = some (.int .i64 mat) := (blk_cell B3.out 5).trans rfl; have p6 : w_.cell? ⟨g3, 6, none⟩ = some (.bool pin) := (blk_cell B3.out 6).trans rfl; have pz0 := blk_frozen B3.out 0; have pz1 := blk_frozen B3.out 1; have pz2 := blk_frozen B3.out 2; have pz3 := blk_frozen B3.out 3; have pz4 := blk_frozen B3.out 4; have pz5 := blk_frozen B3.out 5; have pz6 := blk_frozen B3.out 6)
    | ((with_reducible refine gate_dst (N := 4) rfl ?_); refine box_event ?hg (N := 4) ?hd (cs := #[.int .i64 u, .int .i64 v, .int .i64 s]) (t := 68) ?hr ?_; (case hd => rfl); (case hg => rfl); (case hr => first | (go_simp; done) | (go_simp; rfl)); intro g4 hg w_ hbox hb; have GEg4 := Aside0.mk (by rw [hg]; exact below_size (by repeat (first | (with_reducible first | exact HB.out | apply below_alloc | apply pw_below_drewN | apply below_drew1) | exact HB.out)) : w.heap.size ≤ g4); have nB3_ := Aside0.mk (blk_below (by (with_reducible repeat (first | refine blk_drewN ?_ _ | refine blk_drew ?_ | refine blk_alloc ?_ _)); exact B3.out) hb); have nHB_ := Aside0.mk (below_step (by repeat (first | (with_reducible first | exact HB.out | apply below_alloc | apply pw_below_drewN | apply below_drew1) | exact HB.out)) hb); have B3o_ := B3; clear HB B3; have HB := nHB_; have B3 := nB3_; clear nB3_; clear nHB_; have B4 := Aside0.mk hbox; have NE := Aside0.mk (by rw [hg]; exact Nat.ne_of_gt (blk_lt (by (with_reducible repeat (first | refine blk_drewN ?_ _ | refine blk_drew ?_ | refine blk_alloc ?_ _)); exact B3o_.out)) : g4 ≠ g3); have NF := Aside0.mk NE.out.symm; clear B3o_; have ne_ := NE.out; have nf_ := NF.out; clear hg hbox hb; clear p0 pz0 p1 pz1 p2 pz2 p3 pz3 p4 pz4 p5 pz5 p6 pz6; have p0 : w_.cell? ⟨g3, 0, none⟩ = some (.int .i64 x) := (blk_cell B3.out 0).trans rfl; have p1 : w_.cell? ⟨g3, 1, none⟩ = some (.int .i64 y) := (blk_cell B3.out 1).trans rfl; have p2 : w_.cell? ⟨g3, 2, none⟩ = some (.int .i64 lo) := (blk_cell B3.out 2).trans rfl; have p3 : w_.cell? ⟨g3, 3, none⟩ = some (.int .i64 hi) := (blk_cell B3.out 3).trans rfl; have p4 : w_.cell? ⟨g3, 4, none⟩ = some (.int .i64 tol) := (blk_cell B3.out 4).trans rfl; have p5 : w_.cell? ⟨g3, 5, none⟩ = some (.int .i64 mat) := (blk_cell B3.out 5).trans rfl; have p6 : w_.cell? ⟨g3, 6, none⟩ = some (.bool pin) := (blk_cell B3.out 6).trans rfl; have pz0 := blk_frozen B3.out 0; have pz1 := blk_frozen B3.out 1; have pz2 := blk_frozen B3.out 2; have pz3 := blk_frozen B3.out 3; have pz4 := blk_frozen B3.out 4; have pz5 := blk_frozen B3.out 5; have pz6 := blk_frozen B3.out 6; have q0 : w_.cell? ⟨g4, 0, none⟩ = some (.int .i64 u) := (blk_cell B4.out 0).trans rfl; have q1 : w_.cell? ⟨g4, 1, none⟩ = some (.int .i64 v) := (blk_cell B4.out 1).trans rfl; have q2 : w_.cell? ⟨g4, 2, none⟩ = some (.int .i64 s) := (blk_cell B4.out 2).trans rfl; have qz0 := blk_frozen B4.out 0; have qz1 := blk_frozen B4.out 1; have qz2 := blk_frozen B4.out 2)
    | (go_at_call 23; (with_reducible refine (metrolabref44_Check.calls 9 x y lo hi tol mat pin 0 _ AC.out).mono ?_); rintro e w_ ⟨rfl, hb⟩; have nB3_ := Aside0.mk (blk_below (by (with_reducible repeat (first | refine blk_drewN ?_ _ | refine blk_drew ?_ | refine blk_alloc ?_ _)); exact B3.out) hb); have nB4_ := Aside0.mk (blk_below (by (with_reducible repeat (first | refine blk_drewN ?_ _ | refine blk_drew ?_ | refine blk_alloc ?_ _)); exact B4.out) hb); have nHB_ := Aside0.mk (below_step (by repeat (first | (with_reducible first | exact HB.out | apply below_alloc | apply pw_below_drewN | apply below_drew1) | exact HB.out)) hb); clear HB B3 B4; have HB := nHB_; have B3 := nB3_; clear nB3_; have B4 := nB4_; clear nB4_; clear nHB_; clear hb; clear p0 pz0 p1 pz1 p2 pz2 p3 pz3 p4 pz4 p5 pz5 p6 pz6; clear q0 qz0 q1 qz1 q2 qz2; have p0 : w_.cell? ⟨g3, 0, none⟩ = some (.int .i64 x) := (blk_cell B3.out 0).trans rfl; have p1 : w_.cell? ⟨g3, 1, none⟩ = some (.int .i64 y) := (blk_cell B3.out 1).trans rfl; have p2 : w_.cell? ⟨g3, 2, none⟩ = some (.int .i64 lo) := (blk_cell B3.out 2).trans rfl; have p3 : w_.cell? ⟨g3, 3, none⟩ = some (.int .i64 hi) := (blk_cell B3.out 3).trans rfl; have p4 : w_.cell? ⟨g3, 4, none⟩ = some (.int .i64 tol) := (blk_cell B3.out 4).trans rfl; have p5 : w_.cell? ⟨g3, 5, none⟩ = some (.int .i64 mat) := (blk_cell B3.out 5).trans rfl; have p6 : w_.cell? ⟨g3, 6, none⟩ = some (.bool pin) := (blk_cell B3.out 6).trans rfl; have pz0 := blk_frozen B3.out 0; have pz1 := blk_frozen B3.out 1; have pz2 := blk_frozen B3.out 2; have pz3 := blk_frozen B3.out 3; have pz4 := blk_frozen B3.out 4; have pz5 := blk_frozen B3.out 5; have pz6 := blk_frozen B3.out 6; have q0 : w_.cell? ⟨g4, 0, none⟩ = some (.int .i64 u) := (blk_cell B4.out 0).trans rfl; have q1 : w_.cell? ⟨g4, 1, none⟩ = some (.int .i64 v) := (blk_cell B4.out 1).trans rfl; have q2 : w_.cell? ⟨g4, 2, none⟩ = some (.int .i64 s) := (blk_cell B4.out 2).trans rfl; have qz0 := blk_frozen B4.out 0; have qz1 := blk_frozen B4.out 1; have qz2 := blk_frozen B4.out 2)
    | (go_at_call 42; (with_reducible refine (metrolabref44_Ring.calls u v s 0 _ AR.out).mono ?_); rintro e w_ ⟨rfl, hb⟩; have nB3_ := Aside0.mk (blk_below (by (with_reducible repeat (first | refine blk_drewN ?_ _ | refine blk_drew ?_ | refine blk_alloc ?_ _)); exact B3.out) hb); have nB4_ := Aside0.mk (blk_below (by (with_reducible repeat (first | refine blk_drewN ?_ _ | refine blk_drew ?_ | refine blk_alloc ?_ _)); exact B4.out) hb); have nHB_ := Aside0.mk (below_step (by repeat (first | (with_reducible first | exact HB.out | apply below_alloc | apply pw_below_drewN | apply below_drew1) | exact HB.out)) hb); clear HB B3 B4; have HB := nHB_; have B3 := nB3_; clear nB3_; have B4 := nB4_; clear nB4_; clear nHB_; clear hb; clear p0 pz0 p1 pz1 p2 pz2 p3 pz3 p4 pz4 p5 pz5 p6 pz6; clear q0 qz0 q1 qz1 q2 qz2; have p0 : w_.cell? ⟨g3, 0, none⟩ = some (.int .i64 x) := (blk_cell B3.out 0).trans rfl; have p1 : w_.cell? ⟨g3, 1, none⟩ = some (.int .i64 y) := (blk_cell B3.out 1).trans rfl; have p2 : w_.cell? ⟨g3, 2, none⟩ = some (.int .i64 lo) := (blk_cell B3.out 2).trans rfl; have p3 : w_.cell? ⟨g3, 3, none⟩ = some (.int .i64 hi) := (blk_cell B3.out 3).trans rfl; have p4 : w_.cell? ⟨g3, 4, none⟩ = some (.int .i64 tol) := (blk_cell B3.out 4).trans rfl; have p5 : w_.cell? ⟨g3, 5, none⟩ = some (.int .i64 mat) := (blk_cell B3.out 5).trans rfl; have p6 : w_.cell? ⟨g3, 6, none⟩ = some (.bool pin) := (blk_cell B3.out 6).trans rfl; have pz0 := blk_frozen B3.out 0; have pz1 := blk_frozen B3.out 1; have pz2 := blk_frozen B3.out 2; have pz3 := blk_frozen B3.out 3; have pz4 := blk_frozen B3.out 4; have pz5 := blk_frozen B3.out 5; have pz6 := blk_frozen B3.out 6; have q0 : w_.cell? ⟨g4, 0, none⟩ = some (.int .i64 u) := (blk_cell B4.out 0).trans rfl; have q1 : w_.cell? ⟨g4, 1, none⟩ = some (.int .i64 v) := (blk_cell B4.out 1).trans rfl; have q2 : w_.cell? ⟨g4, 2, none⟩ = some (.int .i64 s) := (blk_cell B4.out 2).trans rfl; have qz0 := blk_frozen B4.out 0; have qz1 := blk_frozen B4.out 1; have qz2 := blk_frozen B4.out 2)
    | (go_at_call 45; (with_reducible refine (bonus_Keeps.calls 9 x y lo hi tol mat pin u v s true 0 _ AK.out (by exact sig_below HS.out (by repeat (first | (with_reducible first | exact HB.out | apply below_alloc | apply pw_below_drewN | apply below_drew1) | exact HB.out)))).mono ?_); rintro e w_ ⟨rfl, hb⟩; have nB3_ := Aside0.mk (blk_below (by (with_reducible repeat (first | refine blk_drewN ?_ _ | refine blk_drew ?_ | refine blk_alloc ?_ _)); exact B3.out) hb); have nB4_ := Aside0.mk (blk_below (by (with_reducible repeat (first | refine blk_drewN ?_ _ | refine blk_drew ?_ | refine blk_alloc ?_ _)); exact B4.out) hb); have nHB_ := Aside0.mk (below_step (by repeat (first | (with_reducible first | exact HB.out | apply below_alloc | apply pw_below_drewN | apply below_drew1) | exact HB.out)) hb); clear HB B3 B4; have HB := nHB_; have B3 := nB3_; clear nB3_; have B4 := nB4_; clear nB4_; clear nHB_; clear hb; clear p0 pz0 p1 pz1 p2 pz2 p3 pz3 p4 pz4 p5 pz5 p6 pz6; clear q0 qz0 q1 qz1 q2 qz2; have p0 : w_.cell? ⟨g3, 0, none⟩ = some (.int .i64 x) := (blk_cell B3.out 0).trans rfl; have p1 : w_.cell? ⟨g3, 1, none⟩ = some (.int .i64 y) := (blk_cell B3.out 1).trans rfl; have p2 : w_.cell? ⟨g3, 2, none⟩ = some (.int .i64 lo) := (blk_cell B3.out 2).trans rfl; have p3 : w_.cell? ⟨g3, 3, none⟩ = some (.int .i64 hi) := (blk_cell B3.out 3).trans rfl; have p4 : w_.cell? ⟨g3, 4, none⟩ = some (.int .i64 tol) := (blk_cell B3.out 4).trans rfl; have p5 : w_.cell? ⟨g3, 5, none⟩ = some (.int .i64 mat) := (blk_cell B3.out 5).trans rfl; have p6 : w_.cell? ⟨g3, 6, none⟩ = some (.bool pin) := (blk_cell B3.out 6).trans rfl; have pz0 := blk_frozen B3.out 0; have pz1 := blk_frozen B3.out 1; have pz2 := blk_frozen B3.out 2; have pz3 := blk_frozen B3.out 3; have pz4 := blk_frozen B3.out 4; have pz5 := blk_frozen B3.out 5; have pz6 := blk_frozen B3.out 6; have q0 : w_.cell? ⟨g4, 0, none⟩ = some (.int .i64 u) := (blk_cell B4.out 0).trans rfl; have q1 : w_.cell? ⟨g4, 1, none⟩ = some (.int .i64 v) := (blk_cell B4.out 1).trans rfl; have q2 : w_.cell? ⟨g4, 2, none⟩ = some (.int .i64 s) := (blk_cell B4.out 2).trans rfl; have qz0 := blk_frozen B4.out 0; have qz1 := blk_frozen B4.out 1; have qz2 := blk_frozen B4.out 2)
    | (go_at_call 46; (with_reducible refine (bonus_KeepsBox.calls 9 x y lo hi tol mat pin u v s true 0 _ AB.out (by exact sig_below HS.out (by repeat (first | (with_reducible first | exact HB.out | apply below_alloc | apply pw_below_drewN | apply below_drew1) | exact HB.out)))).mono ?_); rintro e w_ ⟨rfl, hb⟩; have nB3_ := Aside0.mk (blk_below (by (with_reducible repeat (first | refine blk_drewN ?_ _ | refine blk_drew ?_ | refine blk_alloc ?_ _)); exact B3.out) hb); have nB4_ := Aside0.mk (blk_below (by (with_reducible repeat (first | refine blk_drewN ?_ _ | refine blk_drew ?_ | refine blk_alloc ?_ _)); exact B4.out) hb); have nHB_ := Aside0.mk (below_step (by repeat (first | (with_reducible first | exact HB.out | apply below_alloc | apply pw_below_drewN | apply below_drew1) | exact HB.out)) hb); clear HB B3 B4; have HB := nHB_; have B3 := nB3_; clear nB3_; have B4 := nB4_; clear nB4_; clear nHB_; clear hb; clear p0 pz0 p1 pz1 p2 pz2 p3 pz3 p4 pz4 p5 pz5 p6 pz6; clear q0 qz0 q1 qz1 q2 qz2; have p0 : w_.cell? ⟨g3, 0, none⟩ = some (.int .i64 x) := (blk_cell B3.out 0).trans rfl; have p1 : w_.cell? ⟨g3, 1, none⟩ = some (.int .i64 y) := (blk_cell B3.out 1).trans rfl; have p2 : w_.cell? ⟨g3, 2, none⟩ = some (.int .i64 lo) := (blk_cell B3.out 2).trans rfl; have p3 : w_.cell? ⟨g3, 3, none⟩ = some (.int .i64 hi) := (blk_cell B3.out 3).trans rfl; have p4 : w_.cell? ⟨g3, 4, none⟩ = some (.int .i64 tol) := (blk_cell B3.out 4).trans rfl; have p5 : w_.cell? ⟨g3, 5, none⟩ = some (.int .i64 mat) := (blk_cell B3.out 5).trans rfl; have p6 : w_.cell? ⟨g3, 6, none⟩ = some (.bool pin) := (blk_cell B3.out 6).trans rfl; have pz0 := blk_frozen B3.out 0; have pz1 := blk_frozen B3.out 1; have pz2 := blk_frozen B3.out 2; have pz3 := blk_frozen B3.out 3; have pz4 := blk_frozen B3.out 4; have pz5 := blk_frozen B3.out 5; have pz6 := blk_frozen B3.out 6; have q0 : w_.cell? ⟨g4, 0, none⟩ = some (.int .i64 u) := (blk_cell B4.out 0).trans rfl; have q1 : w_.cell? ⟨g4, 1, none⟩ = some (.int .i64 v) := (blk_cell B4.out 1).trans rfl; have q2 : w_.cell? ⟨g4, 2, none⟩ = some (.int .i64 s) := (blk_cell B4.out 2).trans rfl; have qz0 := blk_frozen B4.out 0; have qz1 := blk_frozen B4.out 1; have qz2 := blk_frozen B4.out 2)
    | ((with_reducible refine gate_dst (N := 11) rfl ?_); refine box_event ?hg (N := 11) ?hd (cs := #[.int .i64 0, .int .i64 0, .int .i64 0, .int .i64 0, .int .i64 0, .int .i64 0, .bool false]) (t := 27) ?hr ?_; (case hd => rfl); (case hg => rfl); (case hr => first | (go_simp; done) | (go_simp; rfl)); intro g11 hg w_ hbox hb; have GEg11 := Aside0.mk (by rw [hg]; exact below_size (by repeat (first | (with_reducible first | exact HB.out | apply below_alloc | apply pw_below_drewN | apply below_drew1) | exact HB.out)) : w.heap.size ≤ g11); have nB3_ := Aside0.mk (blk_below (by (with_reducible repeat (first | refine blk_drewN ?_ _ | refine blk_drew ?_ | refine blk_alloc ?_ _)); exact B3.out) hb); have nB4_ := Aside0.mk (blk_below (by (with_reducible repeat (first | refine blk_drewN ?_ _ | refine blk_drew ?_ | refine blk_alloc ?_ _)); exact B4.out) hb); have nHB_ := Aside0.mk (below_step (by repeat (first | (with_reducible first | exact HB.out | apply below_alloc | apply pw_below_drewN | apply below_drew1) | exact HB.out)) hb); have B3o_ := B3; have B4o_ := B4; clear HB B3 B4; have HB := nHB_; have B3 := nB3_; clear nB3_; have B4 := nB4_; clear nB4_; clear nHB_; have B11 := Aside0.mk hbox; have N3 := Aside0.mk (by rw [hg]; exact Nat.ne_of_gt (blk_lt (by (with_reducible repeat (first | refine blk_drewN ?_ _ | refine blk_drew ?_ | refine blk_alloc ?_ _)); exact B3o_.out)) : g11 ≠ g3); have N4 := Aside0.mk (by rw [hg]; exact Nat.ne_of_gt (blk_lt (by (with_reducible repeat (first | refine blk_drewN ?_ _ | refine blk_drew ?_ | refine blk_alloc ?_ _)); exact B4o_.out)) : g11 ≠ g4); clear B3o_ B4o_; clear hg hbox hb; clear p0 pz0 p1 pz1 p2 pz2 p3 pz3 p4 pz4 p5 pz5 p6 pz6; clear q0 qz0 q1 qz1 q2 qz2; have o0 : w_.cell? ⟨g11, 0, none⟩ = some (.int .i64 0) := (blk_cell B11.out 0).trans rfl; have o1 : w_.cell? ⟨g11, 1, none⟩ = some (.int .i64 0) := (blk_cell B11.out 1).trans rfl; have o2 : w_.cell? ⟨g11, 2, none⟩ = some (.int .i64 0) := (blk_cell B11.out 2).trans rfl; have o3 : w_.cell? ⟨g11, 3, none⟩ = some (.int .i64 0) := (blk_cell B11.out 3).trans rfl; have o4 : w_.cell? ⟨g11, 4, none⟩ = some (.int .i64 0) := (blk_cell B11.out 4).trans rfl; have o5 : w_.cell? ⟨g11, 5, none⟩ = some (.int .i64 0) := (blk_cell B11.out 5).trans rfl; have o6 : w_.cell? ⟨g11, 6, none⟩ = some (.bool false) := (blk_cell B11.out 6).trans rfl; have oz0 := blk_frozen B11.out 0; have oz1 := blk_frozen B11.out 1; have oz2 := blk_frozen B11.out 2; have oz3 := blk_frozen B11.out 3; have oz4 := blk_frozen B11.out 4; have oz5 := blk_frozen B11.out 5; have oz6 := blk_frozen B11.out 6))
  have sB11_ := B11.out
  have sB3_ := B3.out
  have sB4_ := B4.out
  have sHB_ := HB.out
  have sB11_ := blk_put sB11_ 0 (Value.int .i64 x) rfl
  have sB3_ := blk_far sB3_ (p := ⟨g11, 0, none⟩) N3.out.symm (Value.int .i64 x)
  have sB4_ := blk_far sB4_ (p := ⟨g11, 0, none⟩) N4.out.symm (Value.int .i64 x)
  have sHB_ := below_set sHB_ (j := 0) (v := Value.int .i64 x) GEg11.out
  have sB11_ := blk_put sB11_ 1 (Value.int .i64 y) rfl
  have sB3_ := blk_far sB3_ (p := ⟨g11, 1, none⟩) N3.out.symm (Value.int .i64 y)
  have sB4_ := blk_far sB4_ (p := ⟨g11, 1, none⟩) N4.out.symm (Value.int .i64 y)
  have sHB_ := below_set sHB_ (j := 1) (v := Value.int .i64 y) GEg11.out
  have sB11_ := blk_put sB11_ 2 (Value.int .i64 lo) rfl
  have sB3_ := blk_far sB3_ (p := ⟨g11, 2, none⟩) N3.out.symm (Value.int .i64 lo)
  have sB4_ := blk_far sB4_ (p := ⟨g11, 2, none⟩) N4.out.symm (Value.int .i64 lo)
  have sHB_ := below_set sHB_ (j := 2) (v := Value.int .i64 lo) GEg11.out
  have sB11_ := blk_put sB11_ 3 (Value.int .i64 hi) rfl
  have sB3_ := blk_far sB3_ (p := ⟨g11, 3, none⟩) N3.out.symm (Value.int .i64 hi)
  have sB4_ := blk_far sB4_ (p := ⟨g11, 3, none⟩) N4.out.symm (Value.int .i64 hi)
  have sHB_ := below_set sHB_ (j := 3) (v := Value.int .i64 hi) GEg11.out
  have sB11_ := blk_put sB11_ 4 (Value.int .i64 tol) rfl
  have sB3_ := blk_far sB3_ (p := ⟨g11, 4, none⟩) N3.out.symm (Value.int .i64 tol)
  have sB4_ := blk_far sB4_ (p := ⟨g11, 4, none⟩) N4.out.symm (Value.int .i64 tol)
  have sHB_ := below_set sHB_ (j := 4) (v := Value.int .i64 tol) GEg11.out
  have sB11_ := blk_put sB11_ 5 (Value.int .i64 mat) rfl
  have sB3_ := blk_far sB3_ (p := ⟨g11, 5, none⟩) N3.out.symm (Value.int .i64 mat)
  have sB4_ := blk_far sB4_ (p := ⟨g11, 5, none⟩) N4.out.symm (Value.int .i64 mat)
  have sHB_ := below_set sHB_ (j := 5) (v := Value.int .i64 mat) GEg11.out
  have sB11_ := blk_put sB11_ 6 (Value.bool pin) rfl
  have sB3_ := blk_far sB3_ (p := ⟨g11, 6, none⟩) N3.out.symm (Value.bool pin)
  have sB4_ := blk_far sB4_ (p := ⟨g11, 6, none⟩) N4.out.symm (Value.bool pin)
  have sHB_ := below_set sHB_ (j := 6) (v := Value.bool pin) GEg11.out
  generalize (((((((w_.setCell ⟨g11, 0, none⟩ (Value.int .i64 x)).setCell ⟨g11, 1, none⟩ (Value.int .i64 y)).setCell ⟨g11, 2, none⟩ (Value.int .i64 lo)).setCell ⟨g11, 3, none⟩ (Value.int .i64 hi)).setCell ⟨g11, 4, none⟩ (Value.int .i64 tol)).setCell ⟨g11, 5, none⟩ (Value.int .i64 mat)).setCell ⟨g11, 6, none⟩ (Value.bool pin)) = w7 at sB11_ sB3_ sB4_ sHB_ ⊢
  clear B11 B3 B4 HB
  have B11 := Aside0.mk sB11_
  have B3 := Aside0.mk sB3_
  have B4 := Aside0.mk sB4_
  have HB := Aside0.mk sHB_
  clear sB11_ sB3_ sB4_ sHB_
  clear o0 oz0 o1 oz1 o2 oz2 o3 oz3 o4 oz4 o5 oz5 o6 oz6
  have B11 : Aside0 (w7.heap[g11]? = some (.cells #[.int .i64 x, .int .i64 y, .int .i64 lo, .int .i64 hi, .int .i64 tol, .int .i64 mat, .bool pin] 27 (0, 0))) := ⟨B11.out⟩
  have o0 : w7.cell? ⟨g11, 0, none⟩ = some (.int .i64 x) := (blk_cell B11.out 0).trans rfl
  have o1 : w7.cell? ⟨g11, 1, none⟩ = some (.int .i64 y) := (blk_cell B11.out 1).trans rfl
  have o2 : w7.cell? ⟨g11, 2, none⟩ = some (.int .i64 lo) := (blk_cell B11.out 2).trans rfl
  have o3 : w7.cell? ⟨g11, 3, none⟩ = some (.int .i64 hi) := (blk_cell B11.out 3).trans rfl
  have o4 : w7.cell? ⟨g11, 4, none⟩ = some (.int .i64 tol) := (blk_cell B11.out 4).trans rfl
  have o5 : w7.cell? ⟨g11, 5, none⟩ = some (.int .i64 mat) := (blk_cell B11.out 5).trans rfl
  have o6 : w7.cell? ⟨g11, 6, none⟩ = some (.bool pin) := (blk_cell B11.out 6).trans rfl
  have oz0 := blk_frozen B11.out 0
  have oz1 := blk_frozen B11.out 1
  have oz2 := blk_frozen B11.out 2
  have oz3 := blk_frozen B11.out 3
  have oz4 := blk_frozen B11.out 4
  have oz5 := blk_frozen B11.out 5
  have oz6 := blk_frozen B11.out 6
  go_upto_region 9 with (fail)
  have sB11_ := B11.out
  have sB3_ := B3.out
  have sB4_ := B4.out
  have sHB_ := HB.out
  have sB11_ := blk_put sB11_ 4 (Value.int .i64 (wrap64 (tol + wrap64 m))) rfl
  have sB3_ := blk_far sB3_ (p := ⟨g11, 4, none⟩) N3.out.symm (Value.int .i64 (wrap64 (tol + wrap64 m)))
  have sB4_ := blk_far sB4_ (p := ⟨g11, 4, none⟩) N4.out.symm (Value.int .i64 (wrap64 (tol + wrap64 m)))
  have sHB_ := below_set sHB_ (j := 4) (v := Value.int .i64 (wrap64 (tol + wrap64 m))) GEg11.out
  generalize (w7.setCell ⟨g11, 4, none⟩ (Value.int .i64 (wrap64 (tol + wrap64 m)))) = w8 at sB11_ sB3_ sB4_ sHB_ ⊢
  clear B11 B3 B4 HB
  have B11 := Aside0.mk sB11_
  have B3 := Aside0.mk sB3_
  have B4 := Aside0.mk sB4_
  have HB := Aside0.mk sHB_
  clear sB11_ sB3_ sB4_ sHB_
  clear o0 oz0 o1 oz1 o2 oz2 o3 oz3 o4 oz4 o5 oz5 o6 oz6
  have B11 : Aside0 (w8.heap[g11]? = some (.cells #[.int .i64 x, .int .i64 y, .int .i64 lo, .int .i64 hi, .int .i64 (wrap64 (tol + wrap64 m)), .int .i64 mat, .bool pin] 27 (0, 0))) := ⟨B11.out⟩
  have o0 : w8.cell? ⟨g11, 0, none⟩ = some (.int .i64 x) := (blk_cell B11.out 0).trans rfl
  have o1 : w8.cell? ⟨g11, 1, none⟩ = some (.int .i64 y) := (blk_cell B11.out 1).trans rfl
  have o2 : w8.cell? ⟨g11, 2, none⟩ = some (.int .i64 lo) := (blk_cell B11.out 2).trans rfl
  have o3 : w8.cell? ⟨g11, 3, none⟩ = some (.int .i64 hi) := (blk_cell B11.out 3).trans rfl
  have o4 : w8.cell? ⟨g11, 4, none⟩ = some (.int .i64 (wrap64 (tol + wrap64 m))) := (blk_cell B11.out 4).trans rfl
  have o5 : w8.cell? ⟨g11, 5, none⟩ = some (.int .i64 mat) := (blk_cell B11.out 5).trans rfl
  have o6 : w8.cell? ⟨g11, 6, none⟩ = some (.bool pin) := (blk_cell B11.out 6).trans rfl
  have oz0 := blk_frozen B11.out 0
  have oz1 := blk_frozen B11.out 1
  have oz2 := blk_frozen B11.out 2
  have oz3 := blk_frozen B11.out 3
  have oz4 := blk_frozen B11.out 4
  have oz5 := blk_frozen B11.out 5
  have oz6 := blk_frozen B11.out 6
  have p0 : w8.cell? ⟨g3, 0, none⟩ = some (.int .i64 x) := (blk_cell B3.out 0).trans rfl
  have p1 : w8.cell? ⟨g3, 1, none⟩ = some (.int .i64 y) := (blk_cell B3.out 1).trans rfl
  have p2 : w8.cell? ⟨g3, 2, none⟩ = some (.int .i64 lo) := (blk_cell B3.out 2).trans rfl
  have p3 : w8.cell? ⟨g3, 3, none⟩ = some (.int .i64 hi) := (blk_cell B3.out 3).trans rfl
  have p4 : w8.cell? ⟨g3, 4, none⟩ = some (.int .i64 tol) := (blk_cell B3.out 4).trans rfl
  have p5 : w8.cell? ⟨g3, 5, none⟩ = some (.int .i64 mat) := (blk_cell B3.out 5).trans rfl
  have p6 : w8.cell? ⟨g3, 6, none⟩ = some (.bool pin) := (blk_cell B3.out 6).trans rfl
  have pz0 := blk_frozen B3.out 0
  have pz1 := blk_frozen B3.out 1
  have pz2 := blk_frozen B3.out 2
  have pz3 := blk_frozen B3.out 3
  have pz4 := blk_frozen B3.out 4
  have pz5 := blk_frozen B3.out 5
  have pz6 := blk_frozen B3.out 6
  have q0 : w8.cell? ⟨g4, 0, none⟩ = some (.int .i64 u) := (blk_cell B4.out 0).trans rfl
  have q1 : w8.cell? ⟨g4, 1, none⟩ = some (.int .i64 v) := (blk_cell B4.out 1).trans rfl
  have q2 : w8.cell? ⟨g4, 2, none⟩ = some (.int .i64 s) := (blk_cell B4.out 2).trans rfl
  have qz0 := blk_frozen B4.out 0
  have qz1 := blk_frozen B4.out 1
  have qz2 := blk_frozen B4.out 2
  go_upto_region 20 with (first
    | (go_at_call 23; (with_reducible refine (metrolabref44_Check.calls 9 x y lo hi (wrap64 (tol + wrap64 m)) mat pin zw _ AW.out).mono ?_); rintro e w_ ⟨rfl, hb⟩; have nB3_ := Aside0.mk (blk_below (by (with_reducible repeat (first | refine blk_drewN ?_ _ | refine blk_drew ?_ | refine blk_alloc ?_ _)); exact B3.out) hb); have nB4_ := Aside0.mk (blk_below (by (with_reducible repeat (first | refine blk_drewN ?_ _ | refine blk_drew ?_ | refine blk_alloc ?_ _)); exact B4.out) hb); have nB11_ := Aside0.mk (blk_below (by (with_reducible repeat (first | refine blk_drewN ?_ _ | refine blk_drew ?_ | refine blk_alloc ?_ _)); exact B11.out) hb); have nHB_ := Aside0.mk (below_step (by repeat (first | (with_reducible first | exact HB.out | apply below_alloc | apply pw_below_drewN | apply below_drew1) | exact HB.out)) hb); clear HB B3 B4 B11; have HB := nHB_; have B3 := nB3_; clear nB3_; have B4 := nB4_; clear nB4_; have B11 := nB11_; clear nB11_; clear nHB_; clear hb; clear p0 pz0 p1 pz1 p2 pz2 p3 pz3 p4 pz4 p5 pz5 p6 pz6; clear q0 qz0 q1 qz1 q2 qz2; clear o0 oz0 o1 oz1 o2 oz2 o3 oz3 o4 oz4 o5 oz5 o6 oz6; have p0 : w_.cell? ⟨g3, 0, none⟩ = some (.int .i64 x) := (blk_cell B3.out 0).trans rfl; have p1 : w_.cell? ⟨g3, 1, none⟩ = some (.int .i64 y) := (blk_cell B3.out 1).trans rfl; have p2 : w_.cell? ⟨g3, 2, none⟩ = some (.int .i64 lo) := (blk_cell B3.out 2).trans rfl; have p3 : w_.cell? ⟨g3, 3, none⟩ = some (.int .i64 hi) := (blk_cell B3.out 3).trans rfl; have p4 : w_.cell? ⟨g3, 4, none⟩ = some (.int .i64 tol) := (blk_cell B3.out 4).trans rfl; have p5 : w_.cell? ⟨g3, 5, none⟩ = some (.int .i64 mat) := (blk_cell B3.out 5).trans rfl; have p6 : w_.cell? ⟨g3, 6, none⟩ = some (.bool pin) := (blk_cell B3.out 6).trans rfl; have pz0 := blk_frozen B3.out 0; have pz1 := blk_frozen B3.out 1; have pz2 := blk_frozen B3.out 2; have pz3 := blk_frozen B3.out 3; have pz4 := blk_frozen B3.out 4; have pz5 := blk_frozen B3.out 5; have pz6 := blk_frozen B3.out 6; have q0 : w_.cell? ⟨g4, 0, none⟩ = some (.int .i64 u) := (blk_cell B4.out 0).trans rfl; have q1 : w_.cell? ⟨g4, 1, none⟩ = some (.int .i64 v) := (blk_cell B4.out 1).trans rfl; have q2 : w_.cell? ⟨g4, 2, none⟩ = some (.int .i64 s) := (blk_cell B4.out 2).trans rfl; have qz0 := blk_frozen B4.out 0; have qz1 := blk_frozen B4.out 1; have qz2 := blk_frozen B4.out 2; have o0 : w_.cell? ⟨g11, 0, none⟩ = some (.int .i64 x) := (blk_cell B11.out 0).trans rfl; have o1 : w_.cell? ⟨g11, 1, none⟩ = some (.int .i64 y) := (blk_cell B11.out 1).trans rfl; have o2 : w_.cell? ⟨g11, 2, none⟩ = some (.int .i64 lo) := (blk_cell B11.out 2).trans rfl; have o3 : w_.cell? ⟨g11, 3, none⟩ = some (.int .i64 hi) := (blk_cell B11.out 3).trans rfl; have o4 : w_.cell? ⟨g11, 4, none⟩ = some (.int .i64 (wrap64 (tol + wrap64 m))) := (blk_cell B11.out 4).trans rfl; have o5 : w_.cell? ⟨g11, 5, none⟩ = some (.int .i64 mat) := (blk_cell B11.out 5).trans rfl; have o6 : w_.cell? ⟨g11, 6, none⟩ = some (.bool pin) := (blk_cell B11.out 6).trans rfl; have oz0 := blk_frozen B11.out 0; have oz1 := blk_frozen B11.out 1; have oz2 := blk_frozen B11.out 2; have oz3 := blk_frozen B11.out 3; have oz4 := blk_frozen B11.out 4; have oz5 := blk_frozen B11.out 5; have oz6 := blk_frozen B11.out 6)
    | (go_at_call 27; (with_reducible refine (bonus_Allowed.calls 9 x y lo hi tol mat pin s n 0 _ AL.out (by exact sig_below HS.out (by repeat (first | (with_reducible first | exact HB.out | apply below_alloc | apply pw_below_drewN | apply below_drew1) | exact HB.out)))).mono ?_); rintro e w_ ⟨rfl, hb⟩; have nB3_ := Aside0.mk (blk_below (by (with_reducible repeat (first | refine blk_drewN ?_ _ | refine blk_drew ?_ | refine blk_alloc ?_ _)); exact B3.out) hb); have nB4_ := Aside0.mk (blk_below (by (with_reducible repeat (first | refine blk_drewN ?_ _ | refine blk_drew ?_ | refine blk_alloc ?_ _)); exact B4.out) hb); have nB11_ := Aside0.mk (blk_below (by (with_reducible repeat (first | refine blk_drewN ?_ _ | refine blk_drew ?_ | refine blk_alloc ?_ _)); exact B11.out) hb); have nHB_ := Aside0.mk (below_step (by repeat (first | (with_reducible first | exact HB.out | apply below_alloc | apply pw_below_drewN | apply below_drew1) | exact HB.out)) hb); clear HB B3 B4 B11; have HB := nHB_; have B3 := nB3_; clear nB3_; have B4 := nB4_; clear nB4_; have B11 := nB11_; clear nB11_; clear nHB_; clear hb; clear p0 pz0 p1 pz1 p2 pz2 p3 pz3 p4 pz4 p5 pz5 p6 pz6; clear q0 qz0 q1 qz1 q2 qz2; clear o0 oz0 o1 oz1 o2 oz2 o3 oz3 o4 oz4 o5 oz5 o6 oz6; have p0 : w_.cell? ⟨g3, 0, none⟩ = some (.int .i64 x) := (blk_cell B3.out 0).trans rfl; have p1 : w_.cell? ⟨g3, 1, none⟩ = some (.int .i64 y) := (blk_cell B3.out 1).trans rfl; have p2 : w_.cell? ⟨g3, 2, none⟩ = some (.int .i64 lo) := (blk_cell B3.out 2).trans rfl; have p3 : w_.cell? ⟨g3, 3, none⟩ = some (.int .i64 hi) := (blk_cell B3.out 3).trans rfl; have p4 : w_.cell? ⟨g3, 4, none⟩ = some (.int .i64 tol) := (blk_cell B3.out 4).trans rfl; have p5 : w_.cell? ⟨g3, 5, none⟩ = some (.int .i64 mat) := (blk_cell B3.out 5).trans rfl; have p6 : w_.cell? ⟨g3, 6, none⟩ = some (.bool pin) := (blk_cell B3.out 6).trans rfl; have pz0 := blk_frozen B3.out 0; have pz1 := blk_frozen B3.out 1; have pz2 := blk_frozen B3.out 2; have pz3 := blk_frozen B3.out 3; have pz4 := blk_frozen B3.out 4; have pz5 := blk_frozen B3.out 5; have pz6 := blk_frozen B3.out 6; have q0 : w_.cell? ⟨g4, 0, none⟩ = some (.int .i64 u) := (blk_cell B4.out 0).trans rfl; have q1 : w_.cell? ⟨g4, 1, none⟩ = some (.int .i64 v) := (blk_cell B4.out 1).trans rfl; have q2 : w_.cell? ⟨g4, 2, none⟩ = some (.int .i64 s) := (blk_cell B4.out 2).trans rfl; have qz0 := blk_frozen B4.out 0; have qz1 := blk_frozen B4.out 1; have qz2 := blk_frozen B4.out 2; have o0 : w_.cell? ⟨g11, 0, none⟩ = some (.int .i64 x) := (blk_cell B11.out 0).trans rfl; have o1 : w_.cell? ⟨g11, 1, none⟩ = some (.int .i64 y) := (blk_cell B11.out 1).trans rfl; have o2 : w_.cell? ⟨g11, 2, none⟩ = some (.int .i64 lo) := (blk_cell B11.out 2).trans rfl; have o3 : w_.cell? ⟨g11, 3, none⟩ = some (.int .i64 hi) := (blk_cell B11.out 3).trans rfl; have o4 : w_.cell? ⟨g11, 4, none⟩ = some (.int .i64 (wrap64 (tol + wrap64 m))) := (blk_cell B11.out 4).trans rfl; have o5 : w_.cell? ⟨g11, 5, none⟩ = some (.int .i64 mat) := (blk_cell B11.out 5).trans rfl; have o6 : w_.cell? ⟨g11, 6, none⟩ = some (.bool pin) := (blk_cell B11.out 6).trans rfl; have oz0 := blk_frozen B11.out 0; have oz1 := blk_frozen B11.out 1; have oz2 := blk_frozen B11.out 2; have oz3 := blk_frozen B11.out 3; have oz4 := blk_frozen B11.out 4; have oz5 := blk_frozen B11.out 5; have oz6 := blk_frozen B11.out 6)
    | ((with_reducible refine gate_dst (N := 17) rfl ?_); refine box_event ?hg (N := 17) ?hd (cs := #[.int .i64 0, .int .i64 0, .int .i64 0, .int .i64 0, .int .i64 0, .int .i64 0, .bool false]) (t := 27) ?hr ?_; (case hd => rfl); (case hg => rfl); (case hr => first | (go_simp; done) | (go_simp; rfl)); intro g17 hg w_ hbox hb; have GEg17 := Aside0.mk (by rw [hg]; exact below_size (by repeat (first | (with_reducible first | exact HB.out | apply below_alloc | apply pw_below_drewN | apply below_drew1) | exact HB.out)) : w.heap.size ≤ g17); have nB3_ := Aside0.mk (blk_below (by (with_reducible repeat (first | refine blk_drewN ?_ _ | refine blk_drew ?_ | refine blk_alloc ?_ _)); exact B3.out) hb); have nB4_ := Aside0.mk (blk_below (by (with_reducible repeat (first | refine blk_drewN ?_ _ | refine blk_drew ?_ | refine blk_alloc ?_ _)); exact B4.out) hb); have nHB_ := Aside0.mk (below_step (by repeat (first | (with_reducible first | exact HB.out | apply below_alloc | apply pw_below_drewN | apply below_drew1) | exact HB.out)) hb); have B3o_ := B3; have B4o_ := B4; clear HB B3 B4; have HB := nHB_; have B3 := nB3_; clear nB3_; have B4 := nB4_; clear nB4_; clear nHB_; have B17 := Aside0.mk hbox; have N5 := Aside0.mk (by rw [hg]; exact Nat.ne_of_gt (blk_lt (by (with_reducible repeat (first | refine blk_drewN ?_ _ | refine blk_drew ?_ | refine blk_alloc ?_ _)); exact B3o_.out)) : g17 ≠ g3); have N6 := Aside0.mk (by rw [hg]; exact Nat.ne_of_gt (blk_lt (by (with_reducible repeat (first | refine blk_drewN ?_ _ | refine blk_drew ?_ | refine blk_alloc ?_ _)); exact B4o_.out)) : g17 ≠ g4); clear B3o_ B4o_; clear hg hbox hb; clear p0 pz0 p1 pz1 p2 pz2 p3 pz3 p4 pz4 p5 pz5 p6 pz6; clear q0 qz0 q1 qz1 q2 qz2; clear o0 oz0 o1 oz1 o2 oz2 o3 oz3 o4 oz4 o5 oz5 o6 oz6; have r0 : w_.cell? ⟨g17, 0, none⟩ = some (.int .i64 0) := (blk_cell B17.out 0).trans rfl; have r1 : w_.cell? ⟨g17, 1, none⟩ = some (.int .i64 0) := (blk_cell B17.out 1).trans rfl; have r2 : w_.cell? ⟨g17, 2, none⟩ = some (.int .i64 0) := (blk_cell B17.out 2).trans rfl; have r3 : w_.cell? ⟨g17, 3, none⟩ = some (.int .i64 0) := (blk_cell B17.out 3).trans rfl; have r4 : w_.cell? ⟨g17, 4, none⟩ = some (.int .i64 0) := (blk_cell B17.out 4).trans rfl; have r5 : w_.cell? ⟨g17, 5, none⟩ = some (.int .i64 0) := (blk_cell B17.out 5).trans rfl; have r6 : w_.cell? ⟨g17, 6, none⟩ = some (.bool false) := (blk_cell B17.out 6).trans rfl; have rz0 := blk_frozen B17.out 0; have rz1 := blk_frozen B17.out 1; have rz2 := blk_frozen B17.out 2; have rz3 := blk_frozen B17.out 3; have rz4 := blk_frozen B17.out 4; have rz5 := blk_frozen B17.out 5; have rz6 := blk_frozen B17.out 6))
  have sB17_ := B17.out
  have sB3_ := B3.out
  have sB4_ := B4.out
  have sHB_ := HB.out
  have sB17_ := blk_put sB17_ 0 (Value.int .i64 x) rfl
  have sB3_ := blk_far sB3_ (p := ⟨g17, 0, none⟩) N5.out.symm (Value.int .i64 x)
  have sB4_ := blk_far sB4_ (p := ⟨g17, 0, none⟩) N6.out.symm (Value.int .i64 x)
  have sHB_ := below_set sHB_ (j := 0) (v := Value.int .i64 x) GEg17.out
  have sB17_ := blk_put sB17_ 1 (Value.int .i64 y) rfl
  have sB3_ := blk_far sB3_ (p := ⟨g17, 1, none⟩) N5.out.symm (Value.int .i64 y)
  have sB4_ := blk_far sB4_ (p := ⟨g17, 1, none⟩) N6.out.symm (Value.int .i64 y)
  have sHB_ := below_set sHB_ (j := 1) (v := Value.int .i64 y) GEg17.out
  have sB17_ := blk_put sB17_ 2 (Value.int .i64 lo) rfl
  have sB3_ := blk_far sB3_ (p := ⟨g17, 2, none⟩) N5.out.symm (Value.int .i64 lo)
  have sB4_ := blk_far sB4_ (p := ⟨g17, 2, none⟩) N6.out.symm (Value.int .i64 lo)
  have sHB_ := below_set sHB_ (j := 2) (v := Value.int .i64 lo) GEg17.out
  have sB17_ := blk_put sB17_ 3 (Value.int .i64 hi) rfl
  have sB3_ := blk_far sB3_ (p := ⟨g17, 3, none⟩) N5.out.symm (Value.int .i64 hi)
  have sB4_ := blk_far sB4_ (p := ⟨g17, 3, none⟩) N6.out.symm (Value.int .i64 hi)
  have sHB_ := below_set sHB_ (j := 3) (v := Value.int .i64 hi) GEg17.out
  have sB17_ := blk_put sB17_ 4 (Value.int .i64 tol) rfl
  have sB3_ := blk_far sB3_ (p := ⟨g17, 4, none⟩) N5.out.symm (Value.int .i64 tol)
  have sB4_ := blk_far sB4_ (p := ⟨g17, 4, none⟩) N6.out.symm (Value.int .i64 tol)
  have sHB_ := below_set sHB_ (j := 4) (v := Value.int .i64 tol) GEg17.out
  have sB17_ := blk_put sB17_ 5 (Value.int .i64 mat) rfl
  have sB3_ := blk_far sB3_ (p := ⟨g17, 5, none⟩) N5.out.symm (Value.int .i64 mat)
  have sB4_ := blk_far sB4_ (p := ⟨g17, 5, none⟩) N6.out.symm (Value.int .i64 mat)
  have sHB_ := below_set sHB_ (j := 5) (v := Value.int .i64 mat) GEg17.out
  have sB17_ := blk_put sB17_ 6 (Value.bool pin) rfl
  have sB3_ := blk_far sB3_ (p := ⟨g17, 6, none⟩) N5.out.symm (Value.bool pin)
  have sB4_ := blk_far sB4_ (p := ⟨g17, 6, none⟩) N6.out.symm (Value.bool pin)
  have sHB_ := below_set sHB_ (j := 6) (v := Value.bool pin) GEg17.out
  generalize (((((((w_.setCell ⟨g17, 0, none⟩ (Value.int .i64 x)).setCell ⟨g17, 1, none⟩ (Value.int .i64 y)).setCell ⟨g17, 2, none⟩ (Value.int .i64 lo)).setCell ⟨g17, 3, none⟩ (Value.int .i64 hi)).setCell ⟨g17, 4, none⟩ (Value.int .i64 tol)).setCell ⟨g17, 5, none⟩ (Value.int .i64 mat)).setCell ⟨g17, 6, none⟩ (Value.bool pin)) = w9 at sB17_ sB3_ sB4_ sHB_ ⊢
  clear B17 B3 B4 HB
  have B17 := Aside0.mk sB17_
  have B3 := Aside0.mk sB3_
  have B4 := Aside0.mk sB4_
  have HB := Aside0.mk sHB_
  clear sB17_ sB3_ sB4_ sHB_
  clear r0 rz0 r1 rz1 r2 rz2 r3 rz3 r4 rz4 r5 rz5 r6 rz6
  have B17 : Aside0 (w9.heap[g17]? = some (.cells #[.int .i64 x, .int .i64 y, .int .i64 lo, .int .i64 hi, .int .i64 tol, .int .i64 mat, .bool pin] 27 (0, 0))) := ⟨B17.out⟩
  have r0 : w9.cell? ⟨g17, 0, none⟩ = some (.int .i64 x) := (blk_cell B17.out 0).trans rfl
  have r1 : w9.cell? ⟨g17, 1, none⟩ = some (.int .i64 y) := (blk_cell B17.out 1).trans rfl
  have r2 : w9.cell? ⟨g17, 2, none⟩ = some (.int .i64 lo) := (blk_cell B17.out 2).trans rfl
  have r3 : w9.cell? ⟨g17, 3, none⟩ = some (.int .i64 hi) := (blk_cell B17.out 3).trans rfl
  have r4 : w9.cell? ⟨g17, 4, none⟩ = some (.int .i64 tol) := (blk_cell B17.out 4).trans rfl
  have r5 : w9.cell? ⟨g17, 5, none⟩ = some (.int .i64 mat) := (blk_cell B17.out 5).trans rfl
  have r6 : w9.cell? ⟨g17, 6, none⟩ = some (.bool pin) := (blk_cell B17.out 6).trans rfl
  have rz0 := blk_frozen B17.out 0
  have rz1 := blk_frozen B17.out 1
  have rz2 := blk_frozen B17.out 2
  have rz3 := blk_frozen B17.out 3
  have rz4 := blk_frozen B17.out 4
  have rz5 := blk_frozen B17.out 5
  have rz6 := blk_frozen B17.out 6
  go_upto_region 21 with (fail)
  have sB17_ := B17.out
  have sB3_ := B3.out
  have sB4_ := B4.out
  have sHB_ := HB.out
  have sB17_ := blk_put sB17_ 4 (Value.int .i64 (wrap64 (tol + wrap64 (Int.tdiv (wrap64 (n + 1)) 2)))) rfl
  have sB3_ := blk_far sB3_ (p := ⟨g17, 4, none⟩) N5.out.symm (Value.int .i64 (wrap64 (tol + wrap64 (Int.tdiv (wrap64 (n + 1)) 2))))
  have sB4_ := blk_far sB4_ (p := ⟨g17, 4, none⟩) N6.out.symm (Value.int .i64 (wrap64 (tol + wrap64 (Int.tdiv (wrap64 (n + 1)) 2))))
  have sHB_ := below_set sHB_ (j := 4) (v := Value.int .i64 (wrap64 (tol + wrap64 (Int.tdiv (wrap64 (n + 1)) 2)))) GEg17.out
  generalize (w9.setCell ⟨g17, 4, none⟩ (Value.int .i64 (wrap64 (tol + wrap64 (Int.tdiv (wrap64 (n + 1)) 2))))) = wA at sB17_ sB3_ sB4_ sHB_ ⊢
  clear B17 B3 B4 HB
  have B17 := Aside0.mk sB17_
  have B3 := Aside0.mk sB3_
  have B4 := Aside0.mk sB4_
  have HB := Aside0.mk sHB_
  clear sB17_ sB3_ sB4_ sHB_
  clear r0 rz0 r1 rz1 r2 rz2 r3 rz3 r4 rz4 r5 rz5 r6 rz6
  have B17 : Aside0 (wA.heap[g17]? = some (.cells #[.int .i64 x, .int .i64 y, .int .i64 lo, .int .i64 hi, .int .i64 (wrap64 (tol + wrap64 (Int.tdiv (wrap64 (n + 1)) 2))), .int .i64 mat, .bool pin] 27 (0, 0))) := ⟨B17.out⟩
  have r0 : wA.cell? ⟨g17, 0, none⟩ = some (.int .i64 x) := (blk_cell B17.out 0).trans rfl
  have r1 : wA.cell? ⟨g17, 1, none⟩ = some (.int .i64 y) := (blk_cell B17.out 1).trans rfl
  have r2 : wA.cell? ⟨g17, 2, none⟩ = some (.int .i64 lo) := (blk_cell B17.out 2).trans rfl
  have r3 : wA.cell? ⟨g17, 3, none⟩ = some (.int .i64 hi) := (blk_cell B17.out 3).trans rfl
  have r4 : wA.cell? ⟨g17, 4, none⟩ = some (.int .i64 (wrap64 (tol + wrap64 (Int.tdiv (wrap64 (n + 1)) 2)))) := (blk_cell B17.out 4).trans rfl
  have r5 : wA.cell? ⟨g17, 5, none⟩ = some (.int .i64 mat) := (blk_cell B17.out 5).trans rfl
  have r6 : wA.cell? ⟨g17, 6, none⟩ = some (.bool pin) := (blk_cell B17.out 6).trans rfl
  have rz0 := blk_frozen B17.out 0
  have rz1 := blk_frozen B17.out 1
  have rz2 := blk_frozen B17.out 2
  have rz3 := blk_frozen B17.out 3
  have rz4 := blk_frozen B17.out 4
  have rz5 := blk_frozen B17.out 5
  have rz6 := blk_frozen B17.out 6
  have p0 : wA.cell? ⟨g3, 0, none⟩ = some (.int .i64 x) := (blk_cell B3.out 0).trans rfl
  have p1 : wA.cell? ⟨g3, 1, none⟩ = some (.int .i64 y) := (blk_cell B3.out 1).trans rfl
  have p2 : wA.cell? ⟨g3, 2, none⟩ = some (.int .i64 lo) := (blk_cell B3.out 2).trans rfl
  have p3 : wA.cell? ⟨g3, 3, none⟩ = some (.int .i64 hi) := (blk_cell B3.out 3).trans rfl
  have p4 : wA.cell? ⟨g3, 4, none⟩ = some (.int .i64 tol) := (blk_cell B3.out 4).trans rfl
  have p5 : wA.cell? ⟨g3, 5, none⟩ = some (.int .i64 mat) := (blk_cell B3.out 5).trans rfl
  have p6 : wA.cell? ⟨g3, 6, none⟩ = some (.bool pin) := (blk_cell B3.out 6).trans rfl
  have pz0 := blk_frozen B3.out 0
  have pz1 := blk_frozen B3.out 1
  have pz2 := blk_frozen B3.out 2
  have pz3 := blk_frozen B3.out 3
  have pz4 := blk_frozen B3.out 4
  have pz5 := blk_frozen B3.out 5
  have pz6 := blk_frozen B3.out 6
  have q0 : wA.cell? ⟨g4, 0, none⟩ = some (.int .i64 u) := (blk_cell B4.out 0).trans rfl
  have q1 : wA.cell? ⟨g4, 1, none⟩ = some (.int .i64 v) := (blk_cell B4.out 1).trans rfl
  have q2 : wA.cell? ⟨g4, 2, none⟩ = some (.int .i64 s) := (blk_cell B4.out 2).trans rfl
  have qz0 := blk_frozen B4.out 0
  have qz1 := blk_frozen B4.out 1
  have qz2 := blk_frozen B4.out 2
  go_wp2_with (first
    | (go_at_call 23; (with_reducible refine (metrolabref44_Check.calls 9 x y lo hi (wrap64 (tol + wrap64 (Int.tdiv (wrap64 (n + 1)) 2))) mat pin zh _ AH.out).mono ?_); rintro e w_ ⟨rfl, hb⟩; have nB3_ := Aside0.mk (blk_below (by (with_reducible repeat (first | refine blk_drewN ?_ _ | refine blk_drew ?_ | refine blk_alloc ?_ _)); exact B3.out) hb); have nB4_ := Aside0.mk (blk_below (by (with_reducible repeat (first | refine blk_drewN ?_ _ | refine blk_drew ?_ | refine blk_alloc ?_ _)); exact B4.out) hb); have nB17_ := Aside0.mk (blk_below (by (with_reducible repeat (first | refine blk_drewN ?_ _ | refine blk_drew ?_ | refine blk_alloc ?_ _)); exact B17.out) hb); have nHB_ := Aside0.mk (below_step (by repeat (first | (with_reducible first | exact HB.out | apply below_alloc | apply pw_below_drewN | apply below_drew1) | exact HB.out)) hb); clear HB B3 B4 B17; have HB := nHB_; have B3 := nB3_; clear nB3_; have B4 := nB4_; clear nB4_; have B17 := nB17_; clear nB17_; clear nHB_; clear hb; clear p0 pz0 p1 pz1 p2 pz2 p3 pz3 p4 pz4 p5 pz5 p6 pz6; clear q0 qz0 q1 qz1 q2 qz2; clear r0 rz0 r1 rz1 r2 rz2 r3 rz3 r4 rz4 r5 rz5 r6 rz6; have p0 : w_.cell? ⟨g3, 0, none⟩ = some (.int .i64 x) := (blk_cell B3.out 0).trans rfl; have p1 : w_.cell? ⟨g3, 1, none⟩ = some (.int .i64 y) := (blk_cell B3.out 1).trans rfl; have p2 : w_.cell? ⟨g3, 2, none⟩ = some (.int .i64 lo) := (blk_cell B3.out 2).trans rfl; have p3 : w_.cell? ⟨g3, 3, none⟩ = some (.int .i64 hi) := (blk_cell B3.out 3).trans rfl; have p4 : w_.cell? ⟨g3, 4, none⟩ = some (.int .i64 tol) := (blk_cell B3.out 4).trans rfl; have p5 : w_.cell? ⟨g3, 5, none⟩ = some (.int .i64 mat) := (blk_cell B3.out 5).trans rfl; have p6 : w_.cell? ⟨g3, 6, none⟩ = some (.bool pin) := (blk_cell B3.out 6).trans rfl; have pz0 := blk_frozen B3.out 0; have pz1 := blk_frozen B3.out 1; have pz2 := blk_frozen B3.out 2; have pz3 := blk_frozen B3.out 3; have pz4 := blk_frozen B3.out 4; have pz5 := blk_frozen B3.out 5; have pz6 := blk_frozen B3.out 6; have q0 : w_.cell? ⟨g4, 0, none⟩ = some (.int .i64 u) := (blk_cell B4.out 0).trans rfl; have q1 : w_.cell? ⟨g4, 1, none⟩ = some (.int .i64 v) := (blk_cell B4.out 1).trans rfl; have q2 : w_.cell? ⟨g4, 2, none⟩ = some (.int .i64 s) := (blk_cell B4.out 2).trans rfl; have qz0 := blk_frozen B4.out 0; have qz1 := blk_frozen B4.out 1; have qz2 := blk_frozen B4.out 2; have r0 : w_.cell? ⟨g17, 0, none⟩ = some (.int .i64 x) := (blk_cell B17.out 0).trans rfl; have r1 : w_.cell? ⟨g17, 1, none⟩ = some (.int .i64 y) := (blk_cell B17.out 1).trans rfl; have r2 : w_.cell? ⟨g17, 2, none⟩ = some (.int .i64 lo) := (blk_cell B17.out 2).trans rfl; have r3 : w_.cell? ⟨g17, 3, none⟩ = some (.int .i64 hi) := (blk_cell B17.out 3).trans rfl; have r4 : w_.cell? ⟨g17, 4, none⟩ = some (.int .i64 (wrap64 (tol + wrap64 (Int.tdiv (wrap64 (n + 1)) 2)))) := (blk_cell B17.out 4).trans rfl; have r5 : w_.cell? ⟨g17, 5, none⟩ = some (.int .i64 mat) := (blk_cell B17.out 5).trans rfl; have r6 : w_.cell? ⟨g17, 6, none⟩ = some (.bool pin) := (blk_cell B17.out 6).trans rfl; have rz0 := blk_frozen B17.out 0; have rz1 := blk_frozen B17.out 1; have rz2 := blk_frozen B17.out 2; have rz3 := blk_frozen B17.out 3; have rz4 := blk_frozen B17.out 4; have rz5 := blk_frozen B17.out 5; have rz6 := blk_frozen B17.out 6)
    | (go_at_call 24; (with_reducible refine (metrolablaw44_awake.calls true _ AA.out (by exact sig_below HS.out (by repeat (first | (with_reducible first | exact HB.out | apply below_alloc | apply pw_below_drewN | apply below_drew1) | exact HB.out)))).mono ?_); rintro e w_ ⟨rfl, hb⟩; have nB3_ := Aside0.mk (blk_below (by (with_reducible repeat (first | refine blk_drewN ?_ _ | refine blk_drew ?_ | refine blk_alloc ?_ _)); exact B3.out) hb); have nB4_ := Aside0.mk (blk_below (by (with_reducible repeat (first | refine blk_drewN ?_ _ | refine blk_drew ?_ | refine blk_alloc ?_ _)); exact B4.out) hb); have nHB_ := Aside0.mk (below_step (by repeat (first | (with_reducible first | exact HB.out | apply below_alloc | apply pw_below_drewN | apply below_drew1) | exact HB.out)) hb); clear HB B3 B4; have HB := nHB_; have B3 := nB3_; clear nB3_; have B4 := nB4_; clear nB4_; clear nHB_; clear hb))
  go_ret
  exact ⟨rfl, by repeat (first | (with_reducible first | exact HB.out | apply below_alloc | apply pw_below_drewN | apply below_drew1) | exact HB.out)⟩
set_option maxHeartbeats 8000000 in
set_option maxRecDepth 100000 in
theorem boxes_tt10 (x y lo hi tol mat : Int) (pin : Bool) (u v s m : Int) (w : World) (hS : SignsAt w) (zw : Int) (hzw : zw ≠ 0) (hC : metrolabref44_Check.f 9 x y lo hi tol mat pin = some 0) (hR : metrolabref44_Ring.f u v s = some 0) (hK : bonus_Keeps.f 9 x y lo hi tol mat pin u v s = some (true, 0)) (hB : bonus_KeepsBox.f 9 x y lo hi tol mat pin u v s = some (true, 0)) (hW : metrolabref44_Check.f 9 x y lo hi (wrap64 (tol + wrap64 m)) mat pin = some zw) (n : Int) (hL : bonus_Allowed.f 9 x y lo hi tol mat pin s = some (n, 0)) (hH : metrolabref44_Check.f 9 x y lo hi (wrap64 (tol + wrap64 (Int.tdiv (wrap64 (n + 1)) 2))) mat pin = some 0) (hJ : bonus_Keeps.f 9 x y lo hi (wrap64 (tol + wrap64 (Int.tdiv (wrap64 (n + 1)) 2))) mat pin u v s = some (true, 0)) :
    Calls Tryd.prog 10 #[.agg #[.int .i64 x, .int .i64 y, .int .i64 lo, .int .i64 hi, .int .i64 tol, .int .i64 mat, .bool pin], .agg #[.int .i64 u, .int .i64 v, .int .i64 s], .int .u8 m] w fun e w' => e = .returned (.bool true) ∧ Below w.heap.size w w' := by
  have hu27 := Tryd.underlying27
  have hu68 := Tryd.underlying68
  have HS := Aside0.mk hS
  have HB := Aside0.mk (Below.refl w.heap.size w)
  have AA := Aside0.mk (show metrolablaw44_awake.f = some true from rfl)
  clear hS
  have hz0 : (zw == 0) = false := beq_eq_false_iff_ne.mpr hzw
  clear hzw
  have AC := Aside0.mk hC
  clear hC
  have AR := Aside0.mk hR
  clear hR
  have AK := Aside0.mk hK
  clear hK
  have AB := Aside0.mk hB
  clear hB
  have AW := Aside0.mk hW
  clear hW
  have AL := Aside0.mk hL
  clear hL
  have AH := Aside0.mk hH
  clear hH
  have AJ := Aside0.mk hJ
  clear hJ
  go_enter Tryd.func10, Tryd.ntmps10
  go_upto_region 8 with (first
    | ((with_reducible refine gate_dst (N := 3) rfl ?_); refine box_event ?hg (N := 3) ?hd (cs := #[.int .i64 x, .int .i64 y, .int .i64 lo, .int .i64 hi, .int .i64 tol, .int .i64 mat, .bool pin]) (t := 27) ?hr ?_; (case hd => rfl); (case hg => rfl); (case hr => first | (go_simp; done) | (go_simp; rfl)); intro g3 hg w_ hbox hb; have GEg3 := Aside0.mk (by rw [hg]; exact below_size (by repeat (first | (with_reducible first | exact HB.out | apply below_alloc | apply pw_below_drewN | apply below_drew1) | exact HB.out)) : w.heap.size ≤ g3); have nHB_ := Aside0.mk (below_step (by repeat (first | (with_reducible first | exact HB.out | apply below_alloc | apply pw_below_drewN | apply below_drew1) | exact HB.out)) hb); clear HB ; have HB := nHB_; clear nHB_; have B3 := Aside0.mk hbox; clear hg hbox hb; have p0 : w_.cell? ⟨g3, 0, none⟩ = some (.int .i64 x) := (blk_cell B3.out 0).trans rfl; have p1 : w_.cell? ⟨g3, 1, none⟩ = some (.int .i64 y) := (blk_cell B3.out 1).trans rfl; have p2 : w_.cell? ⟨g3, 2, none⟩ = some (.int .i64 lo) := (blk_cell B3.out 2).trans rfl; have p3 : w_.cell? ⟨g3, 3, none⟩ = some (.int .i64 hi) := (blk_cell B3.out 3).trans rfl; have p4 : w_.cell? ⟨g3, 4, none⟩ = some (.int .i64 tol) := (blk_cell B3.out 4).trans rfl; have p5 : w_.cell? ⟨g3, 5, none⟩ = some (.int .i64 mat) := (blk_cell B3.out 5).trans rfl; have p6 : w_.cell? ⟨g3, 6, none⟩ = some (.bool pin) := (blk_cell B3.out 6).trans rfl; have pz0 := blk_frozen B3.out 0; have pz1 := blk_frozen B3.out 1; have pz2 := blk_frozen B3.out 2; have pz3 := blk_frozen B3.out 3; have pz4 := blk_frozen B3.out 4; have pz5 := blk_frozen B3.out 5; have pz6 := blk_frozen B3.out 6)
    | ((with_reducible refine gate_dst (N := 4) rfl ?_); refine box_event ?hg (N := 4) ?hd (cs := #[.int .i64 u, .int .i64 v, .int .i64 s]) (t := 68) ?hr ?_; (case hd => rfl); (case hg => rfl); (case hr => first | (go_simp; done) | (go_simp; rfl)); intro g4 hg w_ hbox hb; have GEg4 := Aside0.mk (by rw [hg]; exact below_size (by repeat (first | (with_reducible first | exact HB.out | apply below_alloc | apply pw_below_drewN | apply below_drew1) | exact HB.out)) : w.heap.size ≤ g4); have nB3_ := Aside0.mk (blk_below (by (with_reducible repeat (first | refine blk_drewN ?_ _ | refine blk_drew ?_ | refine blk_alloc ?_ _)); exact B3.out) hb); have nHB_ := Aside0.mk (below_step (by repeat (first | (with_reducible first | exact HB.out | apply below_alloc | apply pw_below_drewN | apply below_drew1) | exact HB.out)) hb); have B3o_ := B3; clear HB B3; have HB := nHB_; have B3 := nB3_; clear nB3_; clear nHB_; have B4 := Aside0.mk hbox; have NE := Aside0.mk (by rw [hg]; exact Nat.ne_of_gt (blk_lt (by (with_reducible repeat (first | refine blk_drewN ?_ _ | refine blk_drew ?_ | refine blk_alloc ?_ _)); exact B3o_.out)) : g4 ≠ g3); have NF := Aside0.mk NE.out.symm; clear B3o_; have ne_ := NE.out; have nf_ := NF.out; clear hg hbox hb; clear p0 pz0 p1 pz1 p2 pz2 p3 pz3 p4 pz4 p5 pz5 p6 pz6; have p0 : w_.cell? ⟨g3, 0, none⟩ = some (.int .i64 x) := (blk_cell B3.out 0).trans rfl; have p1 : w_.cell? ⟨g3, 1, none⟩ = some (.int .i64 y) := (blk_cell B3.out 1).trans rfl; have p2 : w_.cell? ⟨g3, 2, none⟩ = some (.int .i64 lo) := (blk_cell B3.out 2).trans rfl; have p3 : w_.cell? ⟨g3, 3, none⟩ = some (.int .i64 hi) := (blk_cell B3.out 3).trans rfl; have p4 : w_.cell? ⟨g3, 4, none⟩ = some (.int .i64 tol) := (blk_cell B3.out 4).trans rfl; have p5 : w_.cell? ⟨g3, 5, none⟩ = some (.int .i64 mat) := (blk_cell B3.out 5).trans rfl; have p6 : w_.cell? ⟨g3, 6, none⟩ = some (.bool pin) := (blk_cell B3.out 6).trans rfl; have pz0 := blk_frozen B3.out 0; have pz1 := blk_frozen B3.out 1; have pz2 := blk_frozen B3.out 2; have pz3 := blk_frozen B3.out 3; have pz4 := blk_frozen B3.out 4; have pz5 := blk_frozen B3.out 5; have pz6 := blk_frozen B3.out 6; have q0 : w_.cell? ⟨g4, 0, none⟩ = some (.int .i64 u) := (blk_cell B4.out 0).trans rfl; have q1 : w_.cell? ⟨g4, 1, none⟩ = some (.int .i64 v) := (blk_cell B4.out 1).trans rfl; have q2 : w_.cell? ⟨g4, 2, none⟩ = some (.int .i64 s) := (blk_cell B4.out 2).trans rfl; have qz0 := blk_frozen B4.out 0; have qz1 := blk_frozen B4.out 1; have qz2 := blk_frozen B4.out 2)
    | (go_at_call 23; (with_reducible refine (metrolabref44_Check.calls 9 x y lo hi tol mat pin 0 _ AC.out).mono ?_); rintro e w_ ⟨rfl, hb⟩; have nB3_ := Aside0.mk (blk_below (by (with_reducible repeat (first | refine blk_drewN ?_ _ | refine blk_drew ?_ | refine blk_alloc ?_ _)); exact B3.out) hb); have nB4_ := Aside0.mk (blk_below (by (with_reducible repeat (first | refine blk_drewN ?_ _ | refine blk_drew ?_ | refine blk_alloc ?_ _)); exact B4.out) hb); have nHB_ := Aside0.mk (below_step (by repeat (first | (with_reducible first | exact HB.out | apply below_alloc | apply pw_below_drewN | apply below_drew1) | exact HB.out)) hb); clear HB B3 B4; have HB := nHB_; have B3 := nB3_; clear nB3_; have B4 := nB4_; clear nB4_; clear nHB_; clear hb; clear p0 pz0 p1 pz1 p2 pz2 p3 pz3 p4 pz4 p5 pz5 p6 pz6; clear q0 qz0 q1 qz1 q2 qz2; have p0 : w_.cell? ⟨g3, 0, none⟩ = some (.int .i64 x) := (blk_cell B3.out 0).trans rfl; have p1 : w_.cell? ⟨g3, 1, none⟩ = some (.int .i64 y) := (blk_cell B3.out 1).trans rfl; have p2 : w_.cell? ⟨g3, 2, none⟩ = some (.int .i64 lo) := (blk_cell B3.out 2).trans rfl; have p3 : w_.cell? ⟨g3, 3, none⟩ = some (.int .i64 hi) := (blk_cell B3.out 3).trans rfl; have p4 : w_.cell? ⟨g3, 4, none⟩ = some (.int .i64 tol) := (blk_cell B3.out 4).trans rfl; have p5 : w_.cell? ⟨g3, 5, none⟩ = some (.int .i64 mat) := (blk_cell B3.out 5).trans rfl; have p6 : w_.cell? ⟨g3, 6, none⟩ = some (.bool pin) := (blk_cell B3.out 6).trans rfl; have pz0 := blk_frozen B3.out 0; have pz1 := blk_frozen B3.out 1; have pz2 := blk_frozen B3.out 2; have pz3 := blk_frozen B3.out 3; have pz4 := blk_frozen B3.out 4; have pz5 := blk_frozen B3.out 5; have pz6 := blk_frozen B3.out 6; have q0 : w_.cell? ⟨g4, 0, none⟩ = some (.int .i64 u) := (blk_cell B4.out 0).trans rfl; have q1 : w_.cell? ⟨g4, 1, none⟩ = some (.int .i64 v) := (blk_cell B4.out 1).trans rfl; have q2 : w_.cell? ⟨g4, 2, none⟩ = some (.int .i64 s) := (blk_cell B4.out 2).trans rfl; have qz0 := blk_frozen B4.out 0; have qz1 := blk_frozen B4.out 1; have qz2 := blk_frozen B4.out 2)
    | (go_at_call 42; (with_reducible refine (metrolabref44_Ring.calls u v s 0 _ AR.out).mono ?_); rintro e w_ ⟨rfl, hb⟩; have nB3_ := Aside0.mk (blk_below (by (with_reducible repeat (first | refine blk_drewN ?_ _ | refine blk_drew ?_ | refine blk_alloc ?_ _)); exact B3.out) hb); have nB4_ := Aside0.mk (blk_below (by (with_reducible repeat (first | refine blk_drewN ?_ _ | refine blk_drew ?_ | refine blk_alloc ?_ _)); exact B4.out) hb); have nHB_ := Aside0.mk (below_step (by repeat (first | (with_reducible first | exact HB.out | apply below_alloc | apply pw_below_drewN | apply below_drew1) | exact HB.out)) hb); clear HB B3 B4; have HB := nHB_; have B3 := nB3_; clear nB3_; have B4 := nB4_; clear nB4_; clear nHB_; clear hb; clear p0 pz0 p1 pz1 p2 pz2 p3 pz3 p4 pz4 p5 pz5 p6 pz6; clear q0 qz0 q1 qz1 q2 qz2; have p0 : w_.cell? ⟨g3, 0, none⟩ = some (.int .i64 x) := (blk_cell B3.out 0).trans rfl; have p1 : w_.cell? ⟨g3, 1, none⟩ = some (.int .i64 y) := (blk_cell B3.out 1).trans rfl; have p2 : w_.cell? ⟨g3, 2, none⟩ = some (.int .i64 lo) := (blk_cell B3.out 2).trans rfl; have p3 : w_.cell? ⟨g3, 3, none⟩ = some (.int .i64 hi) := (blk_cell B3.out 3).trans rfl; have p4 : w_.cell? ⟨g3, 4, none⟩ = some (.int .i64 tol) := (blk_cell B3.out 4).trans rfl; have p5 : w_.cell? ⟨g3, 5, none⟩ = some (.int .i64 mat) := (blk_cell B3.out 5).trans rfl; have p6 : w_.cell? ⟨g3, 6, none⟩ = some (.bool pin) := (blk_cell B3.out 6).trans rfl; have pz0 := blk_frozen B3.out 0; have pz1 := blk_frozen B3.out 1; have pz2 := blk_frozen B3.out 2; have pz3 := blk_frozen B3.out 3; have pz4 := blk_frozen B3.out 4; have pz5 := blk_frozen B3.out 5; have pz6 := blk_frozen B3.out 6; have q0 : w_.cell? ⟨g4, 0, none⟩ = some (.int .i64 u) := (blk_cell B4.out 0).trans rfl; have q1 : w_.cell? ⟨g4, 1, none⟩ = some (.int .i64 v) := (blk_cell B4.out 1).trans rfl; have q2 : w_.cell? ⟨g4, 2, none⟩ = some (.int .i64 s) := (blk_cell B4.out 2).trans rfl; have qz0 := blk_frozen B4.out 0; have qz1 := blk_frozen B4.out 1; have qz2 := blk_frozen B4.out 2)
    | (go_at_call 45; (with_reducible refine (bonus_Keeps.calls 9 x y lo hi tol mat pin u v s true 0 _ AK.out (by exact sig_below HS.out (by repeat (first | (with_reducible first | exact HB.out | apply below_alloc | apply pw_below_drewN | apply below_drew1) | exact HB.out)))).mono ?_); rintro e w_ ⟨rfl, hb⟩; have nB3_ := Aside0.mk (blk_below (by (with_reducible repeat (first | refine blk_drewN ?_ _ | refine blk_drew ?_ | refine blk_alloc ?_ _)); exact B3.out) hb); have nB4_ := Aside0.mk (blk_below (by (with_reducible repeat (first | refine blk_drewN ?_ _ | refine blk_drew ?_ | refine blk_alloc ?_ _)); exact B4.out) hb); have nHB_ := Aside0.mk (below_step (by repeat (first | (with_reducible first | exact HB.out | apply below_alloc | apply pw_below_drewN | apply below_drew1) | exact HB.out)) hb); clear HB B3 B4; have HB := nHB_; have B3 := nB3_; clear nB3_; have B4 := nB4_; clear nB4_; clear nHB_; clear hb; clear p0 pz0 p1 pz1 p2 pz2 p3 pz3 p4 pz4 p5 pz5 p6 pz6; clear q0 qz0 q1 qz1 q2 qz2; have p0 : w_.cell? ⟨g3, 0, none⟩ = some (.int .i64 x) := (blk_cell B3.out 0).trans rfl; have p1 : w_.cell? ⟨g3, 1, none⟩ = some (.int .i64 y) := (blk_cell B3.out 1).trans rfl; have p2 : w_.cell? ⟨g3, 2, none⟩ = some (.int .i64 lo) := (blk_cell B3.out 2).trans rfl; have p3 : w_.cell? ⟨g3, 3, none⟩ = some (.int .i64 hi) := (blk_cell B3.out 3).trans rfl; have p4 : w_.cell? ⟨g3, 4, none⟩ = some (.int .i64 tol) := (blk_cell B3.out 4).trans rfl; have p5 : w_.cell? ⟨g3, 5, none⟩ = some (.int .i64 mat) := (blk_cell B3.out 5).trans rfl; have p6 : w_.cell? ⟨g3, 6, none⟩ = some (.bool pin) := (blk_cell B3.out 6).trans rfl; have pz0 := blk_frozen B3.out 0; have pz1 := blk_frozen B3.out 1; have pz2 := blk_frozen B3.out 2; have pz3 := blk_frozen B3.out 3; have pz4 := blk_frozen B3.out 4; have pz5 := blk_frozen B3.out 5; have pz6 := blk_frozen B3.out 6; have q0 : w_.cell? ⟨g4, 0, none⟩ = some (.int .i64 u) := (blk_cell B4.out 0).trans rfl; have q1 : w_.cell? ⟨g4, 1, none⟩ = some (.int .i64 v) := (blk_cell B4.out 1).trans rfl; have q2 : w_.cell? ⟨g4, 2, none⟩ = some (.int .i64 s) := (blk_cell B4.out 2).trans rfl; have qz0 := blk_frozen B4.out 0; have qz1 := blk_frozen B4.out 1; have qz2 := blk_frozen B4.out 2)
    | (go_at_call 46; (with_reducible refine (bonus_KeepsBox.calls 9 x y lo hi tol mat pin u v s true 0 _ AB.out (by exact sig_below HS.out (by repeat (first | (with_reducible first | exact HB.out | apply below_alloc | apply pw_below_drewN | apply below_drew1) | exact HB.out)))).mono ?_); rintro e w_ ⟨rfl, hb⟩; have nB3_ := Aside0.mk (blk_below (by (with_reducible repeat (first | refine blk_drewN ?_ _ | refine blk_drew ?_ | refine blk_alloc ?_ _)); exact B3.out) hb); have nB4_ := Aside0.mk (blk_below (by (with_reducible repeat (first | refine blk_drewN ?_ _ | refine blk_drew ?_ | refine blk_alloc ?_ _)); exact B4.out) hb); have nHB_ := Aside0.mk (below_step (by repeat (first | (with_reducible first | exact HB.out | apply below_alloc | apply pw_below_drewN | apply below_drew1) | exact HB.out)) hb); clear HB B3 B4; have HB := nHB_; have B3 := nB3_; clear nB3_; have B4 := nB4_; clear nB4_; clear nHB_; clear hb; clear p0 pz0 p1 pz1 p2 pz2 p3 pz3 p4 pz4 p5 pz5 p6 pz6; clear q0 qz0 q1 qz1 q2 qz2; have p0 : w_.cell? ⟨g3, 0, none⟩ = some (.int .i64 x) := (blk_cell B3.out 0).trans rfl; have p1 : w_.cell? ⟨g3, 1, none⟩ = some (.int .i64 y) := (blk_cell B3.out 1).trans rfl; have p2 : w_.cell? ⟨g3, 2, none⟩ = some (.int .i64 lo) := (blk_cell B3.out 2).trans rfl; have p3 : w_.cell? ⟨g3, 3, none⟩ = some (.int .i64 hi) := (blk_cell B3.out 3).trans rfl; have p4 : w_.cell? ⟨g3, 4, none⟩ = some (.int .i64 tol) := (blk_cell B3.out 4).trans rfl; have p5 : w_.cell? ⟨g3, 5, none⟩ = some (.int .i64 mat) := (blk_cell B3.out 5).trans rfl; have p6 : w_.cell? ⟨g3, 6, none⟩ = some (.bool pin) := (blk_cell B3.out 6).trans rfl; have pz0 := blk_frozen B3.out 0; have pz1 := blk_frozen B3.out 1; have pz2 := blk_frozen B3.out 2; have pz3 := blk_frozen B3.out 3; have pz4 := blk_frozen B3.out 4; have pz5 := blk_frozen B3.out 5; have pz6 := blk_frozen B3.out 6; have q0 : w_.cell? ⟨g4, 0, none⟩ = some (.int .i64 u) := (blk_cell B4.out 0).trans rfl; have q1 : w_.cell? ⟨g4, 1, none⟩ = some (.int .i64 v) := (blk_cell B4.out 1).trans rfl; have q2 : w_.cell? ⟨g4, 2, none⟩ = some (.int .i64 s) := (blk_cell B4.out 2).trans rfl; have qz0 := blk_frozen B4.out 0; have qz1 := blk_frozen B4.out 1; have qz2 := blk_frozen B4.out 2)
    | ((with_reducible refine gate_dst (N := 11) rfl ?_); refine box_event ?hg (N := 11) ?hd (cs := #[.int .i64 0, .int .i64 0, .int .i64 0, .int .i64 0, .int .i64 0, .int .i64 0, .bool false]) (t := 27) ?hr ?_; (case hd => rfl); (case hg => rfl); (case hr => first | (go_simp; done) | (go_simp; rfl)); intro g11 hg w_ hbox hb; have GEg11 := Aside0.mk (by rw [hg]; exact below_size (by repeat (first | (with_reducible first | exact HB.out | apply below_alloc | apply pw_below_drewN | apply below_drew1) | exact HB.out)) : w.heap.size ≤ g11); have nB3_ := Aside0.mk (blk_below (by (with_reducible repeat (first | refine blk_drewN ?_ _ | refine blk_drew ?_ | refine blk_alloc ?_ _)); exact B3.out) hb); have nB4_ := Aside0.mk (blk_below (by (with_reducible repeat (first | refine blk_drewN ?_ _ | refine blk_drew ?_ | refine blk_alloc ?_ _)); exact B4.out) hb); have nHB_ := Aside0.mk (below_step (by repeat (first | (with_reducible first | exact HB.out | apply below_alloc | apply pw_below_drewN | apply below_drew1) | exact HB.out)) hb); have B3o_ := B3; have B4o_ := B4; clear HB B3 B4; have HB := nHB_; have B3 := nB3_; clear nB3_; have B4 := nB4_; clear nB4_; clear nHB_; have B11 := Aside0.mk hbox; have N3 := Aside0.mk (by rw [hg]; exact Nat.ne_of_gt (blk_lt (by (with_reducible repeat (first | refine blk_drewN ?_ _ | refine blk_drew ?_ | refine blk_alloc ?_ _)); exact B3o_.out)) : g11 ≠ g3); have N4 := Aside0.mk (by rw [hg]; exact Nat.ne_of_gt (blk_lt (by (with_reducible repeat (first | refine blk_drewN ?_ _ | refine blk_drew ?_ | refine blk_alloc ?_ _)); exact B4o_.out)) : g11 ≠ g4); clear B3o_ B4o_; clear hg hbox hb; clear p0 pz0 p1 pz1 p2 pz2 p3 pz3 p4 pz4 p5 pz5 p6 pz6; clear q0 qz0 q1 qz1 q2 qz2; have o0 : w_.cell? ⟨g11, 0, none⟩ = some (.int .i64 0) := (blk_cell B11.out 0).trans rfl; have o1 : w_.cell? ⟨g11, 1, none⟩ = some (.int .i64 0) := (blk_cell B11.out 1).trans rfl; have o2 : w_.cell? ⟨g11, 2, none⟩ = some (.int .i64 0) := (blk_cell B11.out 2).trans rfl; have o3 : w_.cell? ⟨g11, 3, none⟩ = some (.int .i64 0) := (blk_cell B11.out 3).trans rfl; have o4 : w_.cell? ⟨g11, 4, none⟩ = some (.int .i64 0) := (blk_cell B11.out 4).trans rfl; have o5 : w_.cell? ⟨g11, 5, none⟩ = some (.int .i64 0) := (blk_cell B11.out 5).trans rfl; have o6 : w_.cell? ⟨g11, 6, none⟩ = some (.bool false) := (blk_cell B11.out 6).trans rfl; have oz0 := blk_frozen B11.out 0; have oz1 := blk_frozen B11.out 1; have oz2 := blk_frozen B11.out 2; have oz3 := blk_frozen B11.out 3; have oz4 := blk_frozen B11.out 4; have oz5 := blk_frozen B11.out 5; have oz6 := blk_frozen B11.out 6))
  have sB11_ := B11.out
  have sB3_ := B3.out
  have sB4_ := B4.out
  have sHB_ := HB.out
  have sB11_ := blk_put sB11_ 0 (Value.int .i64 x) rfl
  have sB3_ := blk_far sB3_ (p := ⟨g11, 0, none⟩) N3.out.symm (Value.int .i64 x)
  have sB4_ := blk_far sB4_ (p := ⟨g11, 0, none⟩) N4.out.symm (Value.int .i64 x)
  have sHB_ := below_set sHB_ (j := 0) (v := Value.int .i64 x) GEg11.out
  have sB11_ := blk_put sB11_ 1 (Value.int .i64 y) rfl
  have sB3_ := blk_far sB3_ (p := ⟨g11, 1, none⟩) N3.out.symm (Value.int .i64 y)
  have sB4_ := blk_far sB4_ (p := ⟨g11, 1, none⟩) N4.out.symm (Value.int .i64 y)
  have sHB_ := below_set sHB_ (j := 1) (v := Value.int .i64 y) GEg11.out
  have sB11_ := blk_put sB11_ 2 (Value.int .i64 lo) rfl
  have sB3_ := blk_far sB3_ (p := ⟨g11, 2, none⟩) N3.out.symm (Value.int .i64 lo)
  have sB4_ := blk_far sB4_ (p := ⟨g11, 2, none⟩) N4.out.symm (Value.int .i64 lo)
  have sHB_ := below_set sHB_ (j := 2) (v := Value.int .i64 lo) GEg11.out
  have sB11_ := blk_put sB11_ 3 (Value.int .i64 hi) rfl
  have sB3_ := blk_far sB3_ (p := ⟨g11, 3, none⟩) N3.out.symm (Value.int .i64 hi)
  have sB4_ := blk_far sB4_ (p := ⟨g11, 3, none⟩) N4.out.symm (Value.int .i64 hi)
  have sHB_ := below_set sHB_ (j := 3) (v := Value.int .i64 hi) GEg11.out
  have sB11_ := blk_put sB11_ 4 (Value.int .i64 tol) rfl
  have sB3_ := blk_far sB3_ (p := ⟨g11, 4, none⟩) N3.out.symm (Value.int .i64 tol)
  have sB4_ := blk_far sB4_ (p := ⟨g11, 4, none⟩) N4.out.symm (Value.int .i64 tol)
  have sHB_ := below_set sHB_ (j := 4) (v := Value.int .i64 tol) GEg11.out
  have sB11_ := blk_put sB11_ 5 (Value.int .i64 mat) rfl
  have sB3_ := blk_far sB3_ (p := ⟨g11, 5, none⟩) N3.out.symm (Value.int .i64 mat)
  have sB4_ := blk_far sB4_ (p := ⟨g11, 5, none⟩) N4.out.symm (Value.int .i64 mat)
  have sHB_ := below_set sHB_ (j := 5) (v := Value.int .i64 mat) GEg11.out
  have sB11_ := blk_put sB11_ 6 (Value.bool pin) rfl
  have sB3_ := blk_far sB3_ (p := ⟨g11, 6, none⟩) N3.out.symm (Value.bool pin)
  have sB4_ := blk_far sB4_ (p := ⟨g11, 6, none⟩) N4.out.symm (Value.bool pin)
  have sHB_ := below_set sHB_ (j := 6) (v := Value.bool pin) GEg11.out
  generalize (((((((w_.setCell ⟨g11, 0, none⟩ (Value.int .i64 x)).setCell ⟨g11, 1, none⟩ (Value.int .i64 y)).setCell ⟨g11, 2, none⟩ (Value.int .i64 lo)).setCell ⟨g11, 3, none⟩ (Value.int .i64 hi)).setCell ⟨g11, 4, none⟩ (Value.int .i64 tol)).setCell ⟨g11, 5, none⟩ (Value.int .i64 mat)).setCell ⟨g11, 6, none⟩ (Value.bool pin)) = w7 at sB11_ sB3_ sB4_ sHB_ ⊢
  clear B11 B3 B4 HB
  have B11 := Aside0.mk sB11_
  have B3 := Aside0.mk sB3_
  have B4 := Aside0.mk sB4_
  have HB := Aside0.mk sHB_
  clear sB11_ sB3_ sB4_ sHB_
  clear o0 oz0 o1 oz1 o2 oz2 o3 oz3 o4 oz4 o5 oz5 o6 oz6
  have B11 : Aside0 (w7.heap[g11]? = some (.cells #[.int .i64 x, .int .i64 y, .int .i64 lo, .int .i64 hi, .int .i64 tol, .int .i64 mat, .bool pin] 27 (0, 0))) := ⟨B11.out⟩
  have o0 : w7.cell? ⟨g11, 0, none⟩ = some (.int .i64 x) := (blk_cell B11.out 0).trans rfl
  have o1 : w7.cell? ⟨g11, 1, none⟩ = some (.int .i64 y) := (blk_cell B11.out 1).trans rfl
  have o2 : w7.cell? ⟨g11, 2, none⟩ = some (.int .i64 lo) := (blk_cell B11.out 2).trans rfl
  have o3 : w7.cell? ⟨g11, 3, none⟩ = some (.int .i64 hi) := (blk_cell B11.out 3).trans rfl
  have o4 : w7.cell? ⟨g11, 4, none⟩ = some (.int .i64 tol) := (blk_cell B11.out 4).trans rfl
  have o5 : w7.cell? ⟨g11, 5, none⟩ = some (.int .i64 mat) := (blk_cell B11.out 5).trans rfl
  have o6 : w7.cell? ⟨g11, 6, none⟩ = some (.bool pin) := (blk_cell B11.out 6).trans rfl
  have oz0 := blk_frozen B11.out 0
  have oz1 := blk_frozen B11.out 1
  have oz2 := blk_frozen B11.out 2
  have oz3 := blk_frozen B11.out 3
  have oz4 := blk_frozen B11.out 4
  have oz5 := blk_frozen B11.out 5
  have oz6 := blk_frozen B11.out 6
  go_upto_region 9 with (fail)
  have sB11_ := B11.out
  have sB3_ := B3.out
  have sB4_ := B4.out
  have sHB_ := HB.out
  have sB11_ := blk_put sB11_ 4 (Value.int .i64 (wrap64 (tol + wrap64 m))) rfl
  have sB3_ := blk_far sB3_ (p := ⟨g11, 4, none⟩) N3.out.symm (Value.int .i64 (wrap64 (tol + wrap64 m)))
  have sB4_ := blk_far sB4_ (p := ⟨g11, 4, none⟩) N4.out.symm (Value.int .i64 (wrap64 (tol + wrap64 m)))
  have sHB_ := below_set sHB_ (j := 4) (v := Value.int .i64 (wrap64 (tol + wrap64 m))) GEg11.out
  generalize (w7.setCell ⟨g11, 4, none⟩ (Value.int .i64 (wrap64 (tol + wrap64 m)))) = w8 at sB11_ sB3_ sB4_ sHB_ ⊢
  clear B11 B3 B4 HB
  have B11 := Aside0.mk sB11_
  have B3 := Aside0.mk sB3_
  have B4 := Aside0.mk sB4_
  have HB := Aside0.mk sHB_
  clear sB11_ sB3_ sB4_ sHB_
  clear o0 oz0 o1 oz1 o2 oz2 o3 oz3 o4 oz4 o5 oz5 o6 oz6
  have B11 : Aside0 (w8.heap[g11]? = some (.cells #[.int .i64 x, .int .i64 y, .int .i64 lo, .int .i64 hi, .int .i64 (wrap64 (tol + wrap64 m)), .int .i64 mat, .bool pin] 27 (0, 0))) := ⟨B11.out⟩
  have o0 : w8.cell? ⟨g11, 0, none⟩ = some (.int .i64 x) := (blk_cell B11.out 0).trans rfl
  have o1 : w8.cell? ⟨g11, 1, none⟩ = some (.int .i64 y) := (blk_cell B11.out 1).trans rfl
  have o2 : w8.cell? ⟨g11, 2, none⟩ = some (.int .i64 lo) := (blk_cell B11.out 2).trans rfl
  have o3 : w8.cell? ⟨g11, 3, none⟩ = some (.int .i64 hi) := (blk_cell B11.out 3).trans rfl
  have o4 : w8.cell? ⟨g11, 4, none⟩ = some (.int .i64 (wrap64 (tol + wrap64 m))) := (blk_cell B11.out 4).trans rfl
  have o5 : w8.cell? ⟨g11, 5, none⟩ = some (.int .i64 mat) := (blk_cell B11.out 5).trans rfl
  have o6 : w8.cell? ⟨g11, 6, none⟩ = some (.bool pin) := (blk_cell B11.out 6).trans rfl
  have oz0 := blk_frozen B11.out 0
  have oz1 := blk_frozen B11.out 1
  have oz2 := blk_frozen B11.out 2
  have oz3 := blk_frozen B11.out 3
  have oz4 := blk_frozen B11.out 4
  have oz5 := blk_frozen B11.out 5
  have oz6 := blk_frozen B11.out 6
  have p0 : w8.cell? ⟨g3, 0, none⟩ = some (.int .i64 x) := (blk_cell B3.out 0).trans rfl
  have p1 : w8.cell? ⟨g3, 1, none⟩ = some (.int .i64 y) := (blk_cell B3.out 1).trans rfl
  have p2 : w8.cell? ⟨g3, 2, none⟩ = some (.int .i64 lo) := (blk_cell B3.out 2).trans rfl
  have p3 : w8.cell? ⟨g3, 3, none⟩ = some (.int .i64 hi) := (blk_cell B3.out 3).trans rfl
  have p4 : w8.cell? ⟨g3, 4, none⟩ = some (.int .i64 tol) := (blk_cell B3.out 4).trans rfl
  have p5 : w8.cell? ⟨g3, 5, none⟩ = some (.int .i64 mat) := (blk_cell B3.out 5).trans rfl
  have p6 : w8.cell? ⟨g3, 6, none⟩ = some (.bool pin) := (blk_cell B3.out 6).trans rfl
  have pz0 := blk_frozen B3.out 0
  have pz1 := blk_frozen B3.out 1
  have pz2 := blk_frozen B3.out 2
  have pz3 := blk_frozen B3.out 3
  have pz4 := blk_frozen B3.out 4
  have pz5 := blk_frozen B3.out 5
  have pz6 := blk_frozen B3.out 6
  have q0 : w8.cell? ⟨g4, 0, none⟩ = some (.int .i64 u) := (blk_cell B4.out 0).trans rfl
  have q1 : w8.cell? ⟨g4, 1, none⟩ = some (.int .i64 v) := (blk_cell B4.out 1).trans rfl
  have q2 : w8.cell? ⟨g4, 2, none⟩ = some (.int .i64 s) := (blk_cell B4.out 2).trans rfl
  have qz0 := blk_frozen B4.out 0
  have qz1 := blk_frozen B4.out 1
  have qz2 := blk_frozen B4.out 2
  go_upto_region 20 with (first
    | (go_at_call 23; (with_reducible refine (metrolabref44_Check.calls 9 x y lo hi (wrap64 (tol + wrap64 m)) mat pin zw _ AW.out).mono ?_); rintro e w_ ⟨rfl, hb⟩; have nB3_ := Aside0.mk (blk_below (by (with_reducible repeat (first | refine blk_drewN ?_ _ | refine blk_drew ?_ | refine blk_alloc ?_ _)); exact B3.out) hb); have nB4_ := Aside0.mk (blk_below (by (with_reducible repeat (first | refine blk_drewN ?_ _ | refine blk_drew ?_ | refine blk_alloc ?_ _)); exact B4.out) hb); have nB11_ := Aside0.mk (blk_below (by (with_reducible repeat (first | refine blk_drewN ?_ _ | refine blk_drew ?_ | refine blk_alloc ?_ _)); exact B11.out) hb); have nHB_ := Aside0.mk (below_step (by repeat (first | (with_reducible first | exact HB.out | apply below_alloc | apply pw_below_drewN | apply below_drew1) | exact HB.out)) hb); clear HB B3 B4 B11; have HB := nHB_; have B3 := nB3_; clear nB3_; have B4 := nB4_; clear nB4_; have B11 := nB11_; clear nB11_; clear nHB_; clear hb; clear p0 pz0 p1 pz1 p2 pz2 p3 pz3 p4 pz4 p5 pz5 p6 pz6; clear q0 qz0 q1 qz1 q2 qz2; clear o0 oz0 o1 oz1 o2 oz2 o3 oz3 o4 oz4 o5 oz5 o6 oz6; have p0 : w_.cell? ⟨g3, 0, none⟩ = some (.int .i64 x) := (blk_cell B3.out 0).trans rfl; have p1 : w_.cell? ⟨g3, 1, none⟩ = some (.int .i64 y) := (blk_cell B3.out 1).trans rfl; have p2 : w_.cell? ⟨g3, 2, none⟩ = some (.int .i64 lo) := (blk_cell B3.out 2).trans rfl; have p3 : w_.cell? ⟨g3, 3, none⟩ = some (.int .i64 hi) := (blk_cell B3.out 3).trans rfl; have p4 : w_.cell? ⟨g3, 4, none⟩ = some (.int .i64 tol) := (blk_cell B3.out 4).trans rfl; have p5 : w_.cell? ⟨g3, 5, none⟩ = some (.int .i64 mat) := (blk_cell B3.out 5).trans rfl; have p6 : w_.cell? ⟨g3, 6, none⟩ = some (.bool pin) := (blk_cell B3.out 6).trans rfl; have pz0 := blk_frozen B3.out 0; have pz1 := blk_frozen B3.out 1; have pz2 := blk_frozen B3.out 2; have pz3 := blk_frozen B3.out 3; have pz4 := blk_frozen B3.out 4; have pz5 := blk_frozen B3.out 5; have pz6 := blk_frozen B3.out 6; have q0 : w_.cell? ⟨g4, 0, none⟩ = some (.int .i64 u) := (blk_cell B4.out 0).trans rfl; have q1 : w_.cell? ⟨g4, 1, none⟩ = some (.int .i64 v) := (blk_cell B4.out 1).trans rfl; have q2 : w_.cell? ⟨g4, 2, none⟩ = some (.int .i64 s) := (blk_cell B4.out 2).trans rfl; have qz0 := blk_frozen B4.out 0; have qz1 := blk_frozen B4.out 1; have qz2 := blk_frozen B4.out 2; have o0 : w_.cell? ⟨g11, 0, none⟩ = some (.int .i64 x) := (blk_cell B11.out 0).trans rfl; have o1 : w_.cell? ⟨g11, 1, none⟩ = some (.int .i64 y) := (blk_cell B11.out 1).trans rfl; have o2 : w_.cell? ⟨g11, 2, none⟩ = some (.int .i64 lo) := (blk_cell B11.out 2).trans rfl; have o3 : w_.cell? ⟨g11, 3, none⟩ = some (.int .i64 hi) := (blk_cell B11.out 3).trans rfl; have o4 : w_.cell? ⟨g11, 4, none⟩ = some (.int .i64 (wrap64 (tol + wrap64 m))) := (blk_cell B11.out 4).trans rfl; have o5 : w_.cell? ⟨g11, 5, none⟩ = some (.int .i64 mat) := (blk_cell B11.out 5).trans rfl; have o6 : w_.cell? ⟨g11, 6, none⟩ = some (.bool pin) := (blk_cell B11.out 6).trans rfl; have oz0 := blk_frozen B11.out 0; have oz1 := blk_frozen B11.out 1; have oz2 := blk_frozen B11.out 2; have oz3 := blk_frozen B11.out 3; have oz4 := blk_frozen B11.out 4; have oz5 := blk_frozen B11.out 5; have oz6 := blk_frozen B11.out 6)
    | (go_at_call 27; (with_reducible refine (bonus_Allowed.calls 9 x y lo hi tol mat pin s n 0 _ AL.out (by exact sig_below HS.out (by repeat (first | (with_reducible first | exact HB.out | apply below_alloc | apply pw_below_drewN | apply below_drew1) | exact HB.out)))).mono ?_); rintro e w_ ⟨rfl, hb⟩; have nB3_ := Aside0.mk (blk_below (by (with_reducible repeat (first | refine blk_drewN ?_ _ | refine blk_drew ?_ | refine blk_alloc ?_ _)); exact B3.out) hb); have nB4_ := Aside0.mk (blk_below (by (with_reducible repeat (first | refine blk_drewN ?_ _ | refine blk_drew ?_ | refine blk_alloc ?_ _)); exact B4.out) hb); have nB11_ := Aside0.mk (blk_below (by (with_reducible repeat (first | refine blk_drewN ?_ _ | refine blk_drew ?_ | refine blk_alloc ?_ _)); exact B11.out) hb); have nHB_ := Aside0.mk (below_step (by repeat (first | (with_reducible first | exact HB.out | apply below_alloc | apply pw_below_drewN | apply below_drew1) | exact HB.out)) hb); clear HB B3 B4 B11; have HB := nHB_; have B3 := nB3_; clear nB3_; have B4 := nB4_; clear nB4_; have B11 := nB11_; clear nB11_; clear nHB_; clear hb; clear p0 pz0 p1 pz1 p2 pz2 p3 pz3 p4 pz4 p5 pz5 p6 pz6; clear q0 qz0 q1 qz1 q2 qz2; clear o0 oz0 o1 oz1 o2 oz2 o3 oz3 o4 oz4 o5 oz5 o6 oz6; have p0 : w_.cell? ⟨g3, 0, none⟩ = some (.int .i64 x) := (blk_cell B3.out 0).trans rfl; have p1 : w_.cell? ⟨g3, 1, none⟩ = some (.int .i64 y) := (blk_cell B3.out 1).trans rfl; have p2 : w_.cell? ⟨g3, 2, none⟩ = some (.int .i64 lo) := (blk_cell B3.out 2).trans rfl; have p3 : w_.cell? ⟨g3, 3, none⟩ = some (.int .i64 hi) := (blk_cell B3.out 3).trans rfl; have p4 : w_.cell? ⟨g3, 4, none⟩ = some (.int .i64 tol) := (blk_cell B3.out 4).trans rfl; have p5 : w_.cell? ⟨g3, 5, none⟩ = some (.int .i64 mat) := (blk_cell B3.out 5).trans rfl; have p6 : w_.cell? ⟨g3, 6, none⟩ = some (.bool pin) := (blk_cell B3.out 6).trans rfl; have pz0 := blk_frozen B3.out 0; have pz1 := blk_frozen B3.out 1; have pz2 := blk_frozen B3.out 2; have pz3 := blk_frozen B3.out 3; have pz4 := blk_frozen B3.out 4; have pz5 := blk_frozen B3.out 5; have pz6 := blk_frozen B3.out 6; have q0 : w_.cell? ⟨g4, 0, none⟩ = some (.int .i64 u) := (blk_cell B4.out 0).trans rfl; have q1 : w_.cell? ⟨g4, 1, none⟩ = some (.int .i64 v) := (blk_cell B4.out 1).trans rfl; have q2 : w_.cell? ⟨g4, 2, none⟩ = some (.int .i64 s) := (blk_cell B4.out 2).trans rfl; have qz0 := blk_frozen B4.out 0; have qz1 := blk_frozen B4.out 1; have qz2 := blk_frozen B4.out 2; have o0 : w_.cell? ⟨g11, 0, none⟩ = some (.int .i64 x) := (blk_cell B11.out 0).trans rfl; have o1 : w_.cell? ⟨g11, 1, none⟩ = some (.int .i64 y) := (blk_cell B11.out 1).trans rfl; have o2 : w_.cell? ⟨g11, 2, none⟩ = some (.int .i64 lo) := (blk_cell B11.out 2).trans rfl; have o3 : w_.cell? ⟨g11, 3, none⟩ = some (.int .i64 hi) := (blk_cell B11.out 3).trans rfl; have o4 : w_.cell? ⟨g11, 4, none⟩ = some (.int .i64 (wrap64 (tol + wrap64 m))) := (blk_cell B11.out 4).trans rfl; have o5 : w_.cell? ⟨g11, 5, none⟩ = some (.int .i64 mat) := (blk_cell B11.out 5).trans rfl; have o6 : w_.cell? ⟨g11, 6, none⟩ = some (.bool pin) := (blk_cell B11.out 6).trans rfl; have oz0 := blk_frozen B11.out 0; have oz1 := blk_frozen B11.out 1; have oz2 := blk_frozen B11.out 2; have oz3 := blk_frozen B11.out 3; have oz4 := blk_frozen B11.out 4; have oz5 := blk_frozen B11.out 5; have oz6 := blk_frozen B11.out 6)
    | ((with_reducible refine gate_dst (N := 17) rfl ?_); refine box_event ?hg (N := 17) ?hd (cs := #[.int .i64 0, .int .i64 0, .int .i64 0, .int .i64 0, .int .i64 0, .int .i64 0, .bool false]) (t := 27) ?hr ?_; (case hd => rfl); (case hg => rfl); (case hr => first | (go_simp; done) | (go_simp; rfl)); intro g17 hg w_ hbox hb; have GEg17 := Aside0.mk (by rw [hg]; exact below_size (by repeat (first | (with_reducible first | exact HB.out | apply below_alloc | apply pw_below_drewN | apply below_drew1) | exact HB.out)) : w.heap.size ≤ g17); have nB3_ := Aside0.mk (blk_below (by (with_reducible repeat (first | refine blk_drewN ?_ _ | refine blk_drew ?_ | refine blk_alloc ?_ _)); exact B3.out) hb); have nB4_ := Aside0.mk (blk_below (by (with_reducible repeat (first | refine blk_drewN ?_ _ | refine blk_drew ?_ | refine blk_alloc ?_ _)); exact B4.out) hb); have nHB_ := Aside0.mk (below_step (by repeat (first | (with_reducible first | exact HB.out | apply below_alloc | apply pw_below_drewN | apply below_drew1) | exact HB.out)) hb); have B3o_ := B3; have B4o_ := B4; clear HB B3 B4; have HB := nHB_; have B3 := nB3_; clear nB3_; have B4 := nB4_; clear nB4_; clear nHB_; have B17 := Aside0.mk hbox; have N5 := Aside0.mk (by rw [hg]; exact Nat.ne_of_gt (blk_lt (by (with_reducible repeat (first | refine blk_drewN ?_ _ | refine blk_drew ?_ | refine blk_alloc ?_ _)); exact B3o_.out)) : g17 ≠ g3); have N6 := Aside0.mk (by rw [hg]; exact Nat.ne_of_gt (blk_lt (by (with_reducible repeat (first | refine blk_drewN ?_ _ | refine blk_drew ?_ | refine blk_alloc ?_ _)); exact B4o_.out)) : g17 ≠ g4); clear B3o_ B4o_; clear hg hbox hb; clear p0 pz0 p1 pz1 p2 pz2 p3 pz3 p4 pz4 p5 pz5 p6 pz6; clear q0 qz0 q1 qz1 q2 qz2; clear o0 oz0 o1 oz1 o2 oz2 o3 oz3 o4 oz4 o5 oz5 o6 oz6; have r0 : w_.cell? ⟨g17, 0, none⟩ = some (.int .i64 0) := (blk_cell B17.out 0).trans rfl; have r1 : w_.cell? ⟨g17, 1, none⟩ = some (.int .i64 0) := (blk_cell B17.out 1).trans rfl; have r2 : w_.cell? ⟨g17, 2, none⟩ = some (.int .i64 0) := (blk_cell B17.out 2).trans rfl; have r3 : w_.cell? ⟨g17, 3, none⟩ = some (.int .i64 0) := (blk_cell B17.out 3).trans rfl; have r4 : w_.cell? ⟨g17, 4, none⟩ = some (.int .i64 0) := (blk_cell B17.out 4).trans rfl; have r5 : w_.cell? ⟨g17, 5, none⟩ = some (.int .i64 0) := (blk_cell B17.out 5).trans rfl; have r6 : w_.cell? ⟨g17, 6, none⟩ = some (.bool false) := (blk_cell B17.out 6).trans rfl; have rz0 := blk_frozen B17.out 0; have rz1 := blk_frozen B17.out 1; have rz2 := blk_frozen B17.out 2; have rz3 := blk_frozen B17.out 3; have rz4 := blk_frozen B17.out 4; have rz5 := blk_frozen B17.out 5; have rz6 := blk_frozen B17.out 6))
  have sB17_ := B17.out
  have sB3_ := B3.out
  have sB4_ := B4.out
  have sHB_ := HB.out
  have sB17_ := blk_put sB17_ 0 (Value.int .i64 x) rfl
  have sB3_ := blk_far sB3_ (p := ⟨g17, 0, none⟩) N5.out.symm (Value.int .i64 x)
  have sB4_ := blk_far sB4_ (p := ⟨g17, 0, none⟩) N6.out.symm (Value.int .i64 x)
  have sHB_ := below_set sHB_ (j := 0) (v := Value.int .i64 x) GEg17.out
  have sB17_ := blk_put sB17_ 1 (Value.int .i64 y) rfl
  have sB3_ := blk_far sB3_ (p := ⟨g17, 1, none⟩) N5.out.symm (Value.int .i64 y)
  have sB4_ := blk_far sB4_ (p := ⟨g17, 1, none⟩) N6.out.symm (Value.int .i64 y)
  have sHB_ := below_set sHB_ (j := 1) (v := Value.int .i64 y) GEg17.out
  have sB17_ := blk_put sB17_ 2 (Value.int .i64 lo) rfl
  have sB3_ := blk_far sB3_ (p := ⟨g17, 2, none⟩) N5.out.symm (Value.int .i64 lo)
  have sB4_ := blk_far sB4_ (p := ⟨g17, 2, none⟩) N6.out.symm (Value.int .i64 lo)
  have sHB_ := below_set sHB_ (j := 2) (v := Value.int .i64 lo) GEg17.out
  have sB17_ := blk_put sB17_ 3 (Value.int .i64 hi) rfl
  have sB3_ := blk_far sB3_ (p := ⟨g17, 3, none⟩) N5.out.symm (Value.int .i64 hi)
  have sB4_ := blk_far sB4_ (p := ⟨g17, 3, none⟩) N6.out.symm (Value.int .i64 hi)
  have sHB_ := below_set sHB_ (j := 3) (v := Value.int .i64 hi) GEg17.out
  have sB17_ := blk_put sB17_ 4 (Value.int .i64 tol) rfl
  have sB3_ := blk_far sB3_ (p := ⟨g17, 4, none⟩) N5.out.symm (Value.int .i64 tol)
  have sB4_ := blk_far sB4_ (p := ⟨g17, 4, none⟩) N6.out.symm (Value.int .i64 tol)
  have sHB_ := below_set sHB_ (j := 4) (v := Value.int .i64 tol) GEg17.out
  have sB17_ := blk_put sB17_ 5 (Value.int .i64 mat) rfl
  have sB3_ := blk_far sB3_ (p := ⟨g17, 5, none⟩) N5.out.symm (Value.int .i64 mat)
  have sB4_ := blk_far sB4_ (p := ⟨g17, 5, none⟩) N6.out.symm (Value.int .i64 mat)
  have sHB_ := below_set sHB_ (j := 5) (v := Value.int .i64 mat) GEg17.out
  have sB17_ := blk_put sB17_ 6 (Value.bool pin) rfl
  have sB3_ := blk_far sB3_ (p := ⟨g17, 6, none⟩) N5.out.symm (Value.bool pin)
  have sB4_ := blk_far sB4_ (p := ⟨g17, 6, none⟩) N6.out.symm (Value.bool pin)
  have sHB_ := below_set sHB_ (j := 6) (v := Value.bool pin) GEg17.out
  generalize (((((((w_.setCell ⟨g17, 0, none⟩ (Value.int .i64 x)).setCell ⟨g17, 1, none⟩ (Value.int .i64 y)).setCell ⟨g17, 2, none⟩ (Value.int .i64 lo)).setCell ⟨g17, 3, none⟩ (Value.int .i64 hi)).setCell ⟨g17, 4, none⟩ (Value.int .i64 tol)).setCell ⟨g17, 5, none⟩ (Value.int .i64 mat)).setCell ⟨g17, 6, none⟩ (Value.bool pin)) = w9 at sB17_ sB3_ sB4_ sHB_ ⊢
  clear B17 B3 B4 HB
  have B17 := Aside0.mk sB17_
  have B3 := Aside0.mk sB3_
  have B4 := Aside0.mk sB4_
  have HB := Aside0.mk sHB_
  clear sB17_ sB3_ sB4_ sHB_
  clear r0 rz0 r1 rz1 r2 rz2 r3 rz3 r4 rz4 r5 rz5 r6 rz6
  have B17 : Aside0 (w9.heap[g17]? = some (.cells #[.int .i64 x, .int .i64 y, .int .i64 lo, .int .i64 hi, .int .i64 tol, .int .i64 mat, .bool pin] 27 (0, 0))) := ⟨B17.out⟩
  have r0 : w9.cell? ⟨g17, 0, none⟩ = some (.int .i64 x) := (blk_cell B17.out 0).trans rfl
  have r1 : w9.cell? ⟨g17, 1, none⟩ = some (.int .i64 y) := (blk_cell B17.out 1).trans rfl
  have r2 : w9.cell? ⟨g17, 2, none⟩ = some (.int .i64 lo) := (blk_cell B17.out 2).trans rfl
  have r3 : w9.cell? ⟨g17, 3, none⟩ = some (.int .i64 hi) := (blk_cell B17.out 3).trans rfl
  have r4 : w9.cell? ⟨g17, 4, none⟩ = some (.int .i64 tol) := (blk_cell B17.out 4).trans rfl
  have r5 : w9.cell? ⟨g17, 5, none⟩ = some (.int .i64 mat) := (blk_cell B17.out 5).trans rfl
  have r6 : w9.cell? ⟨g17, 6, none⟩ = some (.bool pin) := (blk_cell B17.out 6).trans rfl
  have rz0 := blk_frozen B17.out 0
  have rz1 := blk_frozen B17.out 1
  have rz2 := blk_frozen B17.out 2
  have rz3 := blk_frozen B17.out 3
  have rz4 := blk_frozen B17.out 4
  have rz5 := blk_frozen B17.out 5
  have rz6 := blk_frozen B17.out 6
  go_upto_region 21 with (fail)
  have sB17_ := B17.out
  have sB3_ := B3.out
  have sB4_ := B4.out
  have sHB_ := HB.out
  have sB17_ := blk_put sB17_ 4 (Value.int .i64 (wrap64 (tol + wrap64 (Int.tdiv (wrap64 (n + 1)) 2)))) rfl
  have sB3_ := blk_far sB3_ (p := ⟨g17, 4, none⟩) N5.out.symm (Value.int .i64 (wrap64 (tol + wrap64 (Int.tdiv (wrap64 (n + 1)) 2))))
  have sB4_ := blk_far sB4_ (p := ⟨g17, 4, none⟩) N6.out.symm (Value.int .i64 (wrap64 (tol + wrap64 (Int.tdiv (wrap64 (n + 1)) 2))))
  have sHB_ := below_set sHB_ (j := 4) (v := Value.int .i64 (wrap64 (tol + wrap64 (Int.tdiv (wrap64 (n + 1)) 2)))) GEg17.out
  generalize (w9.setCell ⟨g17, 4, none⟩ (Value.int .i64 (wrap64 (tol + wrap64 (Int.tdiv (wrap64 (n + 1)) 2))))) = wA at sB17_ sB3_ sB4_ sHB_ ⊢
  clear B17 B3 B4 HB
  have B17 := Aside0.mk sB17_
  have B3 := Aside0.mk sB3_
  have B4 := Aside0.mk sB4_
  have HB := Aside0.mk sHB_
  clear sB17_ sB3_ sB4_ sHB_
  clear r0 rz0 r1 rz1 r2 rz2 r3 rz3 r4 rz4 r5 rz5 r6 rz6
  have B17 : Aside0 (wA.heap[g17]? = some (.cells #[.int .i64 x, .int .i64 y, .int .i64 lo, .int .i64 hi, .int .i64 (wrap64 (tol + wrap64 (Int.tdiv (wrap64 (n + 1)) 2))), .int .i64 mat, .bool pin] 27 (0, 0))) := ⟨B17.out⟩
  have r0 : wA.cell? ⟨g17, 0, none⟩ = some (.int .i64 x) := (blk_cell B17.out 0).trans rfl
  have r1 : wA.cell? ⟨g17, 1, none⟩ = some (.int .i64 y) := (blk_cell B17.out 1).trans rfl
  have r2 : wA.cell? ⟨g17, 2, none⟩ = some (.int .i64 lo) := (blk_cell B17.out 2).trans rfl
  have r3 : wA.cell? ⟨g17, 3, none⟩ = some (.int .i64 hi) := (blk_cell B17.out 3).trans rfl
  have r4 : wA.cell? ⟨g17, 4, none⟩ = some (.int .i64 (wrap64 (tol + wrap64 (Int.tdiv (wrap64 (n + 1)) 2)))) := (blk_cell B17.out 4).trans rfl
  have r5 : wA.cell? ⟨g17, 5, none⟩ = some (.int .i64 mat) := (blk_cell B17.out 5).trans rfl
  have r6 : wA.cell? ⟨g17, 6, none⟩ = some (.bool pin) := (blk_cell B17.out 6).trans rfl
  have rz0 := blk_frozen B17.out 0
  have rz1 := blk_frozen B17.out 1
  have rz2 := blk_frozen B17.out 2
  have rz3 := blk_frozen B17.out 3
  have rz4 := blk_frozen B17.out 4
  have rz5 := blk_frozen B17.out 5
  have rz6 := blk_frozen B17.out 6
  have p0 : wA.cell? ⟨g3, 0, none⟩ = some (.int .i64 x) := (blk_cell B3.out 0).trans rfl
  have p1 : wA.cell? ⟨g3, 1, none⟩ = some (.int .i64 y) := (blk_cell B3.out 1).trans rfl
  have p2 : wA.cell? ⟨g3, 2, none⟩ = some (.int .i64 lo) := (blk_cell B3.out 2).trans rfl
  have p3 : wA.cell? ⟨g3, 3, none⟩ = some (.int .i64 hi) := (blk_cell B3.out 3).trans rfl
  have p4 : wA.cell? ⟨g3, 4, none⟩ = some (.int .i64 tol) := (blk_cell B3.out 4).trans rfl
  have p5 : wA.cell? ⟨g3, 5, none⟩ = some (.int .i64 mat) := (blk_cell B3.out 5).trans rfl
  have p6 : wA.cell? ⟨g3, 6, none⟩ = some (.bool pin) := (blk_cell B3.out 6).trans rfl
  have pz0 := blk_frozen B3.out 0
  have pz1 := blk_frozen B3.out 1
  have pz2 := blk_frozen B3.out 2
  have pz3 := blk_frozen B3.out 3
  have pz4 := blk_frozen B3.out 4
  have pz5 := blk_frozen B3.out 5
  have pz6 := blk_frozen B3.out 6
  have q0 : wA.cell? ⟨g4, 0, none⟩ = some (.int .i64 u) := (blk_cell B4.out 0).trans rfl
  have q1 : wA.cell? ⟨g4, 1, none⟩ = some (.int .i64 v) := (blk_cell B4.out 1).trans rfl
  have q2 : wA.cell? ⟨g4, 2, none⟩ = some (.int .i64 s) := (blk_cell B4.out 2).trans rfl
  have qz0 := blk_frozen B4.out 0
  have qz1 := blk_frozen B4.out 1
  have qz2 := blk_frozen B4.out 2
  go_wp2_with (first
    | (go_at_call 23; (with_reducible refine (metrolabref44_Check.calls 9 x y lo hi (wrap64 (tol + wrap64 (Int.tdiv (wrap64 (n + 1)) 2))) mat pin 0 _ AH.out).mono ?_); rintro e w_ ⟨rfl, hb⟩; have nB3_ := Aside0.mk (blk_below (by (with_reducible repeat (first | refine blk_drewN ?_ _ | refine blk_drew ?_ | refine blk_alloc ?_ _)); exact B3.out) hb); have nB4_ := Aside0.mk (blk_below (by (with_reducible repeat (first | refine blk_drewN ?_ _ | refine blk_drew ?_ | refine blk_alloc ?_ _)); exact B4.out) hb); have nB17_ := Aside0.mk (blk_below (by (with_reducible repeat (first | refine blk_drewN ?_ _ | refine blk_drew ?_ | refine blk_alloc ?_ _)); exact B17.out) hb); have nHB_ := Aside0.mk (below_step (by repeat (first | (with_reducible first | exact HB.out | apply below_alloc | apply pw_below_drewN | apply below_drew1) | exact HB.out)) hb); clear HB B3 B4 B17; have HB := nHB_; have B3 := nB3_; clear nB3_; have B4 := nB4_; clear nB4_; have B17 := nB17_; clear nB17_; clear nHB_; clear hb; clear p0 pz0 p1 pz1 p2 pz2 p3 pz3 p4 pz4 p5 pz5 p6 pz6; clear q0 qz0 q1 qz1 q2 qz2; clear r0 rz0 r1 rz1 r2 rz2 r3 rz3 r4 rz4 r5 rz5 r6 rz6; have p0 : w_.cell? ⟨g3, 0, none⟩ = some (.int .i64 x) := (blk_cell B3.out 0).trans rfl; have p1 : w_.cell? ⟨g3, 1, none⟩ = some (.int .i64 y) := (blk_cell B3.out 1).trans rfl; have p2 : w_.cell? ⟨g3, 2, none⟩ = some (.int .i64 lo) := (blk_cell B3.out 2).trans rfl; have p3 : w_.cell? ⟨g3, 3, none⟩ = some (.int .i64 hi) := (blk_cell B3.out 3).trans rfl; have p4 : w_.cell? ⟨g3, 4, none⟩ = some (.int .i64 tol) := (blk_cell B3.out 4).trans rfl; have p5 : w_.cell? ⟨g3, 5, none⟩ = some (.int .i64 mat) := (blk_cell B3.out 5).trans rfl; have p6 : w_.cell? ⟨g3, 6, none⟩ = some (.bool pin) := (blk_cell B3.out 6).trans rfl; have pz0 := blk_frozen B3.out 0; have pz1 := blk_frozen B3.out 1; have pz2 := blk_frozen B3.out 2; have pz3 := blk_frozen B3.out 3; have pz4 := blk_frozen B3.out 4; have pz5 := blk_frozen B3.out 5; have pz6 := blk_frozen B3.out 6; have q0 : w_.cell? ⟨g4, 0, none⟩ = some (.int .i64 u) := (blk_cell B4.out 0).trans rfl; have q1 : w_.cell? ⟨g4, 1, none⟩ = some (.int .i64 v) := (blk_cell B4.out 1).trans rfl; have q2 : w_.cell? ⟨g4, 2, none⟩ = some (.int .i64 s) := (blk_cell B4.out 2).trans rfl; have qz0 := blk_frozen B4.out 0; have qz1 := blk_frozen B4.out 1; have qz2 := blk_frozen B4.out 2; have r0 : w_.cell? ⟨g17, 0, none⟩ = some (.int .i64 x) := (blk_cell B17.out 0).trans rfl; have r1 : w_.cell? ⟨g17, 1, none⟩ = some (.int .i64 y) := (blk_cell B17.out 1).trans rfl; have r2 : w_.cell? ⟨g17, 2, none⟩ = some (.int .i64 lo) := (blk_cell B17.out 2).trans rfl; have r3 : w_.cell? ⟨g17, 3, none⟩ = some (.int .i64 hi) := (blk_cell B17.out 3).trans rfl; have r4 : w_.cell? ⟨g17, 4, none⟩ = some (.int .i64 (wrap64 (tol + wrap64 (Int.tdiv (wrap64 (n + 1)) 2)))) := (blk_cell B17.out 4).trans rfl; have r5 : w_.cell? ⟨g17, 5, none⟩ = some (.int .i64 mat) := (blk_cell B17.out 5).trans rfl; have r6 : w_.cell? ⟨g17, 6, none⟩ = some (.bool pin) := (blk_cell B17.out 6).trans rfl; have rz0 := blk_frozen B17.out 0; have rz1 := blk_frozen B17.out 1; have rz2 := blk_frozen B17.out 2; have rz3 := blk_frozen B17.out 3; have rz4 := blk_frozen B17.out 4; have rz5 := blk_frozen B17.out 5; have rz6 := blk_frozen B17.out 6)
    | (go_at_call 45; (with_reducible refine (bonus_Keeps.calls 9 x y lo hi (wrap64 (tol + wrap64 (Int.tdiv (wrap64 (n + 1)) 2))) mat pin u v s true 0 _ AJ.out (by exact sig_below HS.out (by repeat (first | (with_reducible first | exact HB.out | apply below_alloc | apply pw_below_drewN | apply below_drew1) | exact HB.out)))).mono ?_); rintro e w_ ⟨rfl, hb⟩; have nB3_ := Aside0.mk (blk_below (by (with_reducible repeat (first | refine blk_drewN ?_ _ | refine blk_drew ?_ | refine blk_alloc ?_ _)); exact B3.out) hb); have nB4_ := Aside0.mk (blk_below (by (with_reducible repeat (first | refine blk_drewN ?_ _ | refine blk_drew ?_ | refine blk_alloc ?_ _)); exact B4.out) hb); have nB17_ := Aside0.mk (blk_below (by (with_reducible repeat (first | refine blk_drewN ?_ _ | refine blk_drew ?_ | refine blk_alloc ?_ _)); exact B17.out) hb); have nHB_ := Aside0.mk (below_step (by repeat (first | (with_reducible first | exact HB.out | apply below_alloc | apply pw_below_drewN | apply below_drew1) | exact HB.out)) hb); clear HB B3 B4 B17; have HB := nHB_; have B3 := nB3_; clear nB3_; have B4 := nB4_; clear nB4_; have B17 := nB17_; clear nB17_; clear nHB_; clear hb; clear p0 pz0 p1 pz1 p2 pz2 p3 pz3 p4 pz4 p5 pz5 p6 pz6; clear q0 qz0 q1 qz1 q2 qz2; clear r0 rz0 r1 rz1 r2 rz2 r3 rz3 r4 rz4 r5 rz5 r6 rz6; have p0 : w_.cell? ⟨g3, 0, none⟩ = some (.int .i64 x) := (blk_cell B3.out 0).trans rfl; have p1 : w_.cell? ⟨g3, 1, none⟩ = some (.int .i64 y) := (blk_cell B3.out 1).trans rfl; have p2 : w_.cell? ⟨g3, 2, none⟩ = some (.int .i64 lo) := (blk_cell B3.out 2).trans rfl; have p3 : w_.cell? ⟨g3, 3, none⟩ = some (.int .i64 hi) := (blk_cell B3.out 3).trans rfl; have p4 : w_.cell? ⟨g3, 4, none⟩ = some (.int .i64 tol) := (blk_cell B3.out 4).trans rfl; have p5 : w_.cell? ⟨g3, 5, none⟩ = some (.int .i64 mat) := (blk_cell B3.out 5).trans rfl; have p6 : w_.cell? ⟨g3, 6, none⟩ = some (.bool pin) := (blk_cell B3.out 6).trans rfl; have pz0 := blk_frozen B3.out 0; have pz1 := blk_frozen B3.out 1; have pz2 := blk_frozen B3.out 2; have pz3 := blk_frozen B3.out 3; have pz4 := blk_frozen B3.out 4; have pz5 := blk_frozen B3.out 5; have pz6 := blk_frozen B3.out 6; have q0 : w_.cell? ⟨g4, 0, none⟩ = some (.int .i64 u) := (blk_cell B4.out 0).trans rfl; have q1 : w_.cell? ⟨g4, 1, none⟩ = some (.int .i64 v) := (blk_cell B4.out 1).trans rfl; have q2 : w_.cell? ⟨g4, 2, none⟩ = some (.int .i64 s) := (blk_cell B4.out 2).trans rfl; have qz0 := blk_frozen B4.out 0; have qz1 := blk_frozen B4.out 1; have qz2 := blk_frozen B4.out 2; have r0 : w_.cell? ⟨g17, 0, none⟩ = some (.int .i64 x) := (blk_cell B17.out 0).trans rfl; have r1 : w_.cell? ⟨g17, 1, none⟩ = some (.int .i64 y) := (blk_cell B17.out 1).trans rfl; have r2 : w_.cell? ⟨g17, 2, none⟩ = some (.int .i64 lo) := (blk_cell B17.out 2).trans rfl; have r3 : w_.cell? ⟨g17, 3, none⟩ = some (.int .i64 hi) := (blk_cell B17.out 3).trans rfl; have r4 : w_.cell? ⟨g17, 4, none⟩ = some (.int .i64 (wrap64 (tol + wrap64 (Int.tdiv (wrap64 (n + 1)) 2)))) := (blk_cell B17.out 4).trans rfl; have r5 : w_.cell? ⟨g17, 5, none⟩ = some (.int .i64 mat) := (blk_cell B17.out 5).trans rfl; have r6 : w_.cell? ⟨g17, 6, none⟩ = some (.bool pin) := (blk_cell B17.out 6).trans rfl; have rz0 := blk_frozen B17.out 0; have rz1 := blk_frozen B17.out 1; have rz2 := blk_frozen B17.out 2; have rz3 := blk_frozen B17.out 3; have rz4 := blk_frozen B17.out 4; have rz5 := blk_frozen B17.out 5; have rz6 := blk_frozen B17.out 6)
    | (go_at_call 24; (with_reducible refine (metrolablaw44_awake.calls true _ AA.out (by exact sig_below HS.out (by repeat (first | (with_reducible first | exact HB.out | apply below_alloc | apply pw_below_drewN | apply below_drew1) | exact HB.out)))).mono ?_); rintro e w_ ⟨rfl, hb⟩; have nB3_ := Aside0.mk (blk_below (by (with_reducible repeat (first | refine blk_drewN ?_ _ | refine blk_drew ?_ | refine blk_alloc ?_ _)); exact B3.out) hb); have nB4_ := Aside0.mk (blk_below (by (with_reducible repeat (first | refine blk_drewN ?_ _ | refine blk_drew ?_ | refine blk_alloc ?_ _)); exact B4.out) hb); have nHB_ := Aside0.mk (below_step (by repeat (first | (with_reducible first | exact HB.out | apply below_alloc | apply pw_below_drewN | apply below_drew1) | exact HB.out)) hb); clear HB B3 B4; have HB := nHB_; have B3 := nB3_; clear nB3_; have B4 := nB4_; clear nB4_; clear nHB_; clear hb))
  go_ret
  exact ⟨rfl, by repeat (first | (with_reducible first | exact HB.out | apply below_alloc | apply pw_below_drewN | apply below_drew1) | exact HB.out)⟩
set_option maxHeartbeats 8000000 in
set_option maxRecDepth 100000 in
theorem boxes_tt01 (x y lo hi tol mat : Int) (pin : Bool) (u v s m : Int) (w : World) (hS : SignsAt w) (hC : metrolabref44_Check.f 9 x y lo hi tol mat pin = some 0) (hR : metrolabref44_Ring.f u v s = some 0) (hK : bonus_Keeps.f 9 x y lo hi tol mat pin u v s = some (true, 0)) (hB : bonus_KeepsBox.f 9 x y lo hi tol mat pin u v s = some (true, 0)) (hW : metrolabref44_Check.f 9 x y lo hi (wrap64 (tol + wrap64 m)) mat pin = some 0) (hX : bonus_Keeps.f 9 x y lo hi (wrap64 (tol + wrap64 m)) mat pin u v s = some (true, 0)) (hY : bonus_KeepsBox.f 9 x y lo hi (wrap64 (tol + wrap64 m)) mat pin u v s = some (true, 0)) (n : Int) (hL : bonus_Allowed.f 9 x y lo hi tol mat pin s = some (n, 0)) (zh : Int) (hzh : zh ≠ 0) (hH : metrolabref44_Check.f 9 x y lo hi (wrap64 (tol + wrap64 (Int.tdiv (wrap64 (n + 1)) 2))) mat pin = some zh) :
    Calls Tryd.prog 10 #[.agg #[.int .i64 x, .int .i64 y, .int .i64 lo, .int .i64 hi, .int .i64 tol, .int .i64 mat, .bool pin], .agg #[.int .i64 u, .int .i64 v, .int .i64 s], .int .u8 m] w fun e w' => e = .returned (.bool true) ∧ Below w.heap.size w w' := by
  have hu27 := Tryd.underlying27
  have hu68 := Tryd.underlying68
  have HS := Aside0.mk hS
  have HB := Aside0.mk (Below.refl w.heap.size w)
  have AA := Aside0.mk (show metrolablaw44_awake.f = some true from rfl)
  clear hS
  have AC := Aside0.mk hC
  clear hC
  have AR := Aside0.mk hR
  clear hR
  have AK := Aside0.mk hK
  clear hK
  have AB := Aside0.mk hB
  clear hB
  have AW := Aside0.mk hW
  clear hW
  have AX := Aside0.mk hX
  clear hX
  have AY := Aside0.mk hY
  clear hY
  have AL := Aside0.mk hL
  clear hL
  have hz2 : (zh != 0) = true := bne_iff_ne.mpr hzh
  clear hzh
  have AH := Aside0.mk hH
  clear hH
  go_enter Tryd.func10, Tryd.ntmps10
  go_upto_region 8 with (first
    | ((with_reducible refine gate_dst (N := 3) rfl ?_); refine box_event ?hg (N := 3) ?hd (cs := #[.int .i64 x, .int .i64 y, .int .i64 lo, .int .i64 hi, .int .i64 tol, .int .i64 mat, .bool pin]) (t := 27) ?hr ?_; (case hd => rfl); (case hg => rfl); (case hr => first | (go_simp; done) | (go_simp; rfl)); intro g3 hg w_ hbox hb; have GEg3 := Aside0.mk (by rw [hg]; exact below_size (by repeat (first | (with_reducible first | exact HB.out | apply below_alloc | apply pw_below_drewN | apply below_drew1) | exact HB.out)) : w.heap.size ≤ g3); have nHB_ := Aside0.mk (below_step (by repeat (first | (with_reducible first | exact HB.out | apply below_alloc | apply pw_below_drewN | apply below_drew1) | exact HB.out)) hb); clear HB ; have HB := nHB_; clear nHB_; have B3 := Aside0.mk hbox; clear hg hbox hb; have p0 : w_.cell? ⟨g3, 0, none⟩ = some (.int .i64 x) := (blk_cell B3.out 0).trans rfl; have p1 : w_.cell? ⟨g3, 1, none⟩ = some (.int .i64 y) := (blk_cell B3.out 1).trans rfl; have p2 : w_.cell? ⟨g3, 2, none⟩ = some (.int .i64 lo) := (blk_cell B3.out 2).trans rfl; have p3 : w_.cell? ⟨g3, 3, none⟩ = some (.int .i64 hi) := (blk_cell B3.out 3).trans rfl; have p4 : w_.cell? ⟨g3, 4, none⟩ = some (.int .i64 tol) := (blk_cell B3.out 4).trans rfl; have p5 : w_.cell? ⟨g3, 5, none⟩ = some (.int .i64 mat) := (blk_cell B3.out 5).trans rfl; have p6 : w_.cell? ⟨g3, 6, none⟩ = some (.bool pin) := (blk_cell B3.out 6).trans rfl; have pz0 := blk_frozen B3.out 0; have pz1 := blk_frozen B3.out 1; have pz2 := blk_frozen B3.out 2; have pz3 := blk_frozen B3.out 3; have pz4 := blk_frozen B3.out 4; have pz5 := blk_frozen B3.out 5; have pz6 := blk_frozen B3.out 6)
    | ((with_reducible refine gate_dst (N := 4) rfl ?_); refine box_event ?hg (N := 4) ?hd (cs := #[.int .i64 u, .int .i64 v, .int .i64 s]) (t := 68) ?hr ?_; (case hd => rfl); (case hg => rfl); (case hr => first | (go_simp; done) | (go_simp; rfl)); intro g4 hg w_ hbox hb; have GEg4 := Aside0.mk (by rw [hg]; exact below_size (by repeat (first | (with_reducible first | exact HB.out | apply below_alloc | apply pw_below_drewN | apply below_drew1) | exact HB.out)) : w.heap.size ≤ g4); have nB3_ := Aside0.mk (blk_below (by (with_reducible repeat (first | refine blk_drewN ?_ _ | refine blk_drew ?_ | refine blk_alloc ?_ _)); exact B3.out) hb); have nHB_ := Aside0.mk (below_step (by repeat (first | (with_reducible first | exact HB.out | apply below_alloc | apply pw_below_drewN | apply below_drew1) | exact HB.out)) hb); have B3o_ := B3; clear HB B3; have HB := nHB_; have B3 := nB3_; clear nB3_; clear nHB_; have B4 := Aside0.mk hbox; have NE := Aside0.mk (by rw [hg]; exact Nat.ne_of_gt (blk_lt (by (with_reducible repeat (first | refine blk_drewN ?_ _ | refine blk_drew ?_ | refine blk_alloc ?_ _)); exact B3o_.out)) : g4 ≠ g3); have NF := Aside0.mk NE.out.symm; clear B3o_; have ne_ := NE.out; have nf_ := NF.out; clear hg hbox hb; clear p0 pz0 p1 pz1 p2 pz2 p3 pz3 p4 pz4 p5 pz5 p6 pz6; have p0 : w_.cell? ⟨g3, 0, none⟩ = some (.int .i64 x) := (blk_cell B3.out 0).trans rfl; have p1 : w_.cell? ⟨g3, 1, none⟩ = some (.int .i64 y) := (blk_cell B3.out 1).trans rfl; have p2 : w_.cell? ⟨g3, 2, none⟩ = some (.int .i64 lo) := (blk_cell B3.out 2).trans rfl; have p3 : w_.cell? ⟨g3, 3, none⟩ = some (.int .i64 hi) := (blk_cell B3.out 3).trans rfl; have p4 : w_.cell? ⟨g3, 4, none⟩ = some (.int .i64 tol) := (blk_cell B3.out 4).trans rfl; have p5 : w_.cell? ⟨g3, 5, none⟩ = some (.int .i64 mat) := (blk_cell B3.out 5).trans rfl; have p6 : w_.cell? ⟨g3, 6, none⟩ = some (.bool pin) := (blk_cell B3.out 6).trans rfl; have pz0 := blk_frozen B3.out 0; have pz1 := blk_frozen B3.out 1; have pz2 := blk_frozen B3.out 2; have pz3 := blk_frozen B3.out 3; have pz4 := blk_frozen B3.out 4; have pz5 := blk_frozen B3.out 5; have pz6 := blk_frozen B3.out 6; have q0 : w_.cell? ⟨g4, 0, none⟩ = some (.int .i64 u) := (blk_cell B4.out 0).trans rfl; have q1 : w_.cell? ⟨g4, 1, none⟩ = some (.int .i64 v) := (blk_cell B4.out 1).trans rfl; have q2 : w_.cell? ⟨g4, 2, none⟩ = some (.int .i64 s) := (blk_cell B4.out 2).trans rfl; have qz0 := blk_frozen B4.out 0; have qz1 := blk_frozen B4.out 1; have qz2 := blk_frozen B4.out 2)
    | (go_at_call 23; (with_reducible refine (metrolabref44_Check.calls 9 x y lo hi tol mat pin 0 _ AC.out).mono ?_); rintro e w_ ⟨rfl, hb⟩; have nB3_ := Aside0.mk (blk_below (by (with_reducible repeat (first | refine blk_drewN ?_ _ | refine blk_drew ?_ | refine blk_alloc ?_ _)); exact B3.out) hb); have nB4_ := Aside0.mk (blk_below (by (with_reducible repeat (first | refine blk_drewN ?_ _ | refine blk_drew ?_ | refine blk_alloc ?_ _)); exact B4.out) hb); have nHB_ := Aside0.mk (below_step (by repeat (first | (with_reducible first | exact HB.out | apply below_alloc | apply pw_below_drewN | apply below_drew1) | exact HB.out)) hb); clear HB B3 B4; have HB := nHB_; have B3 := nB3_; clear nB3_; have B4 := nB4_; clear nB4_; clear nHB_; clear hb; clear p0 pz0 p1 pz1 p2 pz2 p3 pz3 p4 pz4 p5 pz5 p6 pz6; clear q0 qz0 q1 qz1 q2 qz2; have p0 : w_.cell? ⟨g3, 0, none⟩ = some (.int .i64 x) := (blk_cell B3.out 0).trans rfl; have p1 : w_.cell? ⟨g3, 1, none⟩ = some (.int .i64 y) := (blk_cell B3.out 1).trans rfl; have p2 : w_.cell? ⟨g3, 2, none⟩ = some (.int .i64 lo) := (blk_cell B3.out 2).trans rfl; have p3 : w_.cell? ⟨g3, 3, none⟩ = some (.int .i64 hi) := (blk_cell B3.out 3).trans rfl; have p4 : w_.cell? ⟨g3, 4, none⟩ = some (.int .i64 tol) := (blk_cell B3.out 4).trans rfl; have p5 : w_.cell? ⟨g3, 5, none⟩ = some (.int .i64 mat) := (blk_cell B3.out 5).trans rfl; have p6 : w_.cell? ⟨g3, 6, none⟩ = some (.bool pin) := (blk_cell B3.out 6).trans rfl; have pz0 := blk_frozen B3.out 0; have pz1 := blk_frozen B3.out 1; have pz2 := blk_frozen B3.out 2; have pz3 := blk_frozen B3.out 3; have pz4 := blk_frozen B3.out 4; have pz5 := blk_frozen B3.out 5; have pz6 := blk_frozen B3.out 6; have q0 : w_.cell? ⟨g4, 0, none⟩ = some (.int .i64 u) := (blk_cell B4.out 0).trans rfl; have q1 : w_.cell? ⟨g4, 1, none⟩ = some (.int .i64 v) := (blk_cell B4.out 1).trans rfl; have q2 : w_.cell? ⟨g4, 2, none⟩ = some (.int .i64 s) := (blk_cell B4.out 2).trans rfl; have qz0 := blk_frozen B4.out 0; have qz1 := blk_frozen B4.out 1; have qz2 := blk_frozen B4.out 2)
    | (go_at_call 42; (with_reducible refine (metrolabref44_Ring.calls u v s 0 _ AR.out).mono ?_); rintro e w_ ⟨rfl, hb⟩; have nB3_ := Aside0.mk (blk_below (by (with_reducible repeat (first | refine blk_drewN ?_ _ | refine blk_drew ?_ | refine blk_alloc ?_ _)); exact B3.out) hb); have nB4_ := Aside0.mk (blk_below (by (with_reducible repeat (first | refine blk_drewN ?_ _ | refine blk_drew ?_ | refine blk_alloc ?_ _)); exact B4.out) hb); have nHB_ := Aside0.mk (below_step (by repeat (first | (with_reducible first | exact HB.out | apply below_alloc | apply pw_below_drewN | apply below_drew1) | exact HB.out)) hb); clear HB B3 B4; have HB := nHB_; have B3 := nB3_; clear nB3_; have B4 := nB4_; clear nB4_; clear nHB_; clear hb; clear p0 pz0 p1 pz1 p2 pz2 p3 pz3 p4 pz4 p5 pz5 p6 pz6; clear q0 qz0 q1 qz1 q2 qz2; have p0 : w_.cell? ⟨g3, 0, none⟩ = some (.int .i64 x) := (blk_cell B3.out 0).trans rfl; have p1 : w_.cell? ⟨g3, 1, none⟩ = some (.int .i64 y) := (blk_cell B3.out 1).trans rfl; have p2 : w_.cell? ⟨g3, 2, none⟩ = some (.int .i64 lo) := (blk_cell B3.out 2).trans rfl; have p3 : w_.cell? ⟨g3, 3, none⟩ = some (.int .i64 hi) := (blk_cell B3.out 3).trans rfl; have p4 : w_.cell? ⟨g3, 4, none⟩ = some (.int .i64 tol) := (blk_cell B3.out 4).trans rfl; have p5 : w_.cell? ⟨g3, 5, none⟩ = some (.int .i64 mat) := (blk_cell B3.out 5).trans rfl; have p6 : w_.cell? ⟨g3, 6, none⟩ = some (.bool pin) := (blk_cell B3.out 6).trans rfl; have pz0 := blk_frozen B3.out 0; have pz1 := blk_frozen B3.out 1; have pz2 := blk_frozen B3.out 2; have pz3 := blk_frozen B3.out 3; have pz4 := blk_frozen B3.out 4; have pz5 := blk_frozen B3.out 5; have pz6 := blk_frozen B3.out 6; have q0 : w_.cell? ⟨g4, 0, none⟩ = some (.int .i64 u) := (blk_cell B4.out 0).trans rfl; have q1 : w_.cell? ⟨g4, 1, none⟩ = some (.int .i64 v) := (blk_cell B4.out 1).trans rfl; have q2 : w_.cell? ⟨g4, 2, none⟩ = some (.int .i64 s) := (blk_cell B4.out 2).trans rfl; have qz0 := blk_frozen B4.out 0; have qz1 := blk_frozen B4.out 1; have qz2 := blk_frozen B4.out 2)
    | (go_at_call 45; (with_reducible refine (bonus_Keeps.calls 9 x y lo hi tol mat pin u v s true 0 _ AK.out (by exact sig_below HS.out (by repeat (first | (with_reducible first | exact HB.out | apply below_alloc | apply pw_below_drewN | apply below_drew1) | exact HB.out)))).mono ?_); rintro e w_ ⟨rfl, hb⟩; have nB3_ := Aside0.mk (blk_below (by (with_reducible repeat (first | refine blk_drewN ?_ _ | refine blk_drew ?_ | refine blk_alloc ?_ _)); exact B3.out) hb); have nB4_ := Aside0.mk (blk_below (by (with_reducible repeat (first | refine blk_drewN ?_ _ | refine blk_drew ?_ | refine blk_alloc ?_ _)); exact B4.out) hb); have nHB_ := Aside0.mk (below_step (by repeat (first | (with_reducible first | exact HB.out | apply below_alloc | apply pw_below_drewN | apply below_drew1) | exact HB.out)) hb); clear HB B3 B4; have HB := nHB_; have B3 := nB3_; clear nB3_; have B4 := nB4_; clear nB4_; clear nHB_; clear hb; clear p0 pz0 p1 pz1 p2 pz2 p3 pz3 p4 pz4 p5 pz5 p6 pz6; clear q0 qz0 q1 qz1 q2 qz2; have p0 : w_.cell? ⟨g3, 0, none⟩ = some (.int .i64 x) := (blk_cell B3.out 0).trans rfl; have p1 : w_.cell? ⟨g3, 1, none⟩ = some (.int .i64 y) := (blk_cell B3.out 1).trans rfl; have p2 : w_.cell? ⟨g3, 2, none⟩ = some (.int .i64 lo) := (blk_cell B3.out 2).trans rfl; have p3 : w_.cell? ⟨g3, 3, none⟩ = some (.int .i64 hi) := (blk_cell B3.out 3).trans rfl; have p4 : w_.cell? ⟨g3, 4, none⟩ = some (.int .i64 tol) := (blk_cell B3.out 4).trans rfl; have p5 : w_.cell? ⟨g3, 5, none⟩ = some (.int .i64 mat) := (blk_cell B3.out 5).trans rfl; have p6 : w_.cell? ⟨g3, 6, none⟩ = some (.bool pin) := (blk_cell B3.out 6).trans rfl; have pz0 := blk_frozen B3.out 0; have pz1 := blk_frozen B3.out 1; have pz2 := blk_frozen B3.out 2; have pz3 := blk_frozen B3.out 3; have pz4 := blk_frozen B3.out 4; have pz5 := blk_frozen B3.out 5; have pz6 := blk_frozen B3.out 6; have q0 : w_.cell? ⟨g4, 0, none⟩ = some (.int .i64 u) := (blk_cell B4.out 0).trans rfl; have q1 : w_.cell? ⟨g4, 1, none⟩ = some (.int .i64 v) := (blk_cell B4.out 1).trans rfl; have q2 : w_.cell? ⟨g4, 2, none⟩ = some (.int .i64 s) := (blk_cell B4.out 2).trans rfl; have qz0 := blk_frozen B4.out 0; have qz1 := blk_frozen B4.out 1; have qz2 := blk_frozen B4.out 2)
    | (go_at_call 46; (with_reducible refine (bonus_KeepsBox.calls 9 x y lo hi tol mat pin u v s true 0 _ AB.out (by exact sig_below HS.out (by repeat (first | (with_reducible first | exact HB.out | apply below_alloc | apply pw_below_drewN | apply below_drew1) | exact HB.out)))).mono ?_); rintro e w_ ⟨rfl, hb⟩; have nB3_ := Aside0.mk (blk_below (by (with_reducible repeat (first | refine blk_drewN ?_ _ | refine blk_drew ?_ | refine blk_alloc ?_ _)); exact B3.out) hb); have nB4_ := Aside0.mk (blk_below (by (with_reducible repeat (first | refine blk_drewN ?_ _ | refine blk_drew ?_ | refine blk_alloc ?_ _)); exact B4.out) hb); have nHB_ := Aside0.mk (below_step (by repeat (first | (with_reducible first | exact HB.out | apply below_alloc | apply pw_below_drewN | apply below_drew1) | exact HB.out)) hb); clear HB B3 B4; have HB := nHB_; have B3 := nB3_; clear nB3_; have B4 := nB4_; clear nB4_; clear nHB_; clear hb; clear p0 pz0 p1 pz1 p2 pz2 p3 pz3 p4 pz4 p5 pz5 p6 pz6; clear q0 qz0 q1 qz1 q2 qz2; have p0 : w_.cell? ⟨g3, 0, none⟩ = some (.int .i64 x) := (blk_cell B3.out 0).trans rfl; have p1 : w_.cell? ⟨g3, 1, none⟩ = some (.int .i64 y) := (blk_cell B3.out 1).trans rfl; have p2 : w_.cell? ⟨g3, 2, none⟩ = some (.int .i64 lo) := (blk_cell B3.out 2).trans rfl; have p3 : w_.cell? ⟨g3, 3, none⟩ = some (.int .i64 hi) := (blk_cell B3.out 3).trans rfl; have p4 : w_.cell? ⟨g3, 4, none⟩ = some (.int .i64 tol) := (blk_cell B3.out 4).trans rfl; have p5 : w_.cell? ⟨g3, 5, none⟩ = some (.int .i64 mat) := (blk_cell B3.out 5).trans rfl; have p6 : w_.cell? ⟨g3, 6, none⟩ = some (.bool pin) := (blk_cell B3.out 6).trans rfl; have pz0 := blk_frozen B3.out 0; have pz1 := blk_frozen B3.out 1; have pz2 := blk_frozen B3.out 2; have pz3 := blk_frozen B3.out 3; have pz4 := blk_frozen B3.out 4; have pz5 := blk_frozen B3.out 5; have pz6 := blk_frozen B3.out 6; have q0 : w_.cell? ⟨g4, 0, none⟩ = some (.int .i64 u) := (blk_cell B4.out 0).trans rfl; have q1 : w_.cell? ⟨g4, 1, none⟩ = some (.int .i64 v) := (blk_cell B4.out 1).trans rfl; have q2 : w_.cell? ⟨g4, 2, none⟩ = some (.int .i64 s) := (blk_cell B4.out 2).trans rfl; have qz0 := blk_frozen B4.out 0; have qz1 := blk_frozen B4.out 1; have qz2 := blk_frozen B4.out 2)
    | ((with_reducible refine gate_dst (N := 11) rfl ?_); refine box_event ?hg (N := 11) ?hd (cs := #[.int .i64 0, .int .i64 0, .int .i64 0, .int .i64 0, .int .i64 0, .int .i64 0, .bool false]) (t := 27) ?hr ?_; (case hd => rfl); (case hg => rfl); (case hr => first | (go_simp; done) | (go_simp; rfl)); intro g11 hg w_ hbox hb; have GEg11 := Aside0.mk (by rw [hg]; exact below_size (by repeat (first | (with_reducible first | exact HB.out | apply below_alloc | apply pw_below_drewN | apply below_drew1) | exact HB.out)) : w.heap.size ≤ g11); have nB3_ := Aside0.mk (blk_below (by (with_reducible repeat (first | refine blk_drewN ?_ _ | refine blk_drew ?_ | refine blk_alloc ?_ _)); exact B3.out) hb); have nB4_ := Aside0.mk (blk_below (by (with_reducible repeat (first | refine blk_drewN ?_ _ | refine blk_drew ?_ | refine blk_alloc ?_ _)); exact B4.out) hb); have nHB_ := Aside0.mk (below_step (by repeat (first | (with_reducible first | exact HB.out | apply below_alloc | apply pw_below_drewN | apply below_drew1) | exact HB.out)) hb); have B3o_ := B3; have B4o_ := B4; clear HB B3 B4; have HB := nHB_; have B3 := nB3_; clear nB3_; have B4 := nB4_; clear nB4_; clear nHB_; have B11 := Aside0.mk hbox; have N3 := Aside0.mk (by rw [hg]; exact Nat.ne_of_gt (blk_lt (by (with_reducible repeat (first | refine blk_drewN ?_ _ | refine blk_drew ?_ | refine blk_alloc ?_ _)); exact B3o_.out)) : g11 ≠ g3); have N4 := Aside0.mk (by rw [hg]; exact Nat.ne_of_gt (blk_lt (by (with_reducible repeat (first | refine blk_drewN ?_ _ | refine blk_drew ?_ | refine blk_alloc ?_ _)); exact B4o_.out)) : g11 ≠ g4); clear B3o_ B4o_; clear hg hbox hb; clear p0 pz0 p1 pz1 p2 pz2 p3 pz3 p4 pz4 p5 pz5 p6 pz6; clear q0 qz0 q1 qz1 q2 qz2; have o0 : w_.cell? ⟨g11, 0, none⟩ = some (.int .i64 0) := (blk_cell B11.out 0).trans rfl; have o1 : w_.cell? ⟨g11, 1, none⟩ = some (.int .i64 0) := (blk_cell B11.out 1).trans rfl; have o2 : w_.cell? ⟨g11, 2, none⟩ = some (.int .i64 0) := (blk_cell B11.out 2).trans rfl; have o3 : w_.cell? ⟨g11, 3, none⟩ = some (.int .i64 0) := (blk_cell B11.out 3).trans rfl; have o4 : w_.cell? ⟨g11, 4, none⟩ = some (.int .i64 0) := (blk_cell B11.out 4).trans rfl; have o5 : w_.cell? ⟨g11, 5, none⟩ = some (.int .i64 0) := (blk_cell B11.out 5).trans rfl; have o6 : w_.cell? ⟨g11, 6, none⟩ = some (.bool false) := (blk_cell B11.out 6).trans rfl; have oz0 := blk_frozen B11.out 0; have oz1 := blk_frozen B11.out 1; have oz2 := blk_frozen B11.out 2; have oz3 := blk_frozen B11.out 3; have oz4 := blk_frozen B11.out 4; have oz5 := blk_frozen B11.out 5; have oz6 := blk_frozen B11.out 6))
  have sB11_ := B11.out
  have sB3_ := B3.out
  have sB4_ := B4.out
  have sHB_ := HB.out
  have sB11_ := blk_put sB11_ 0 (Value.int .i64 x) rfl
  have sB3_ := blk_far sB3_ (p := ⟨g11, 0, none⟩) N3.out.symm (Value.int .i64 x)
  have sB4_ := blk_far sB4_ (p := ⟨g11, 0, none⟩) N4.out.symm (Value.int .i64 x)
  have sHB_ := below_set sHB_ (j := 0) (v := Value.int .i64 x) GEg11.out
  have sB11_ := blk_put sB11_ 1 (Value.int .i64 y) rfl
  have sB3_ := blk_far sB3_ (p := ⟨g11, 1, none⟩) N3.out.symm (Value.int .i64 y)
  have sB4_ := blk_far sB4_ (p := ⟨g11, 1, none⟩) N4.out.symm (Value.int .i64 y)
  have sHB_ := below_set sHB_ (j := 1) (v := Value.int .i64 y) GEg11.out
  have sB11_ := blk_put sB11_ 2 (Value.int .i64 lo) rfl
  have sB3_ := blk_far sB3_ (p := ⟨g11, 2, none⟩) N3.out.symm (Value.int .i64 lo)
  have sB4_ := blk_far sB4_ (p := ⟨g11, 2, none⟩) N4.out.symm (Value.int .i64 lo)
  have sHB_ := below_set sHB_ (j := 2) (v := Value.int .i64 lo) GEg11.out
  have sB11_ := blk_put sB11_ 3 (Value.int .i64 hi) rfl
  have sB3_ := blk_far sB3_ (p := ⟨g11, 3, none⟩) N3.out.symm (Value.int .i64 hi)
  have sB4_ := blk_far sB4_ (p := ⟨g11, 3, none⟩) N4.out.symm (Value.int .i64 hi)
  have sHB_ := below_set sHB_ (j := 3) (v := Value.int .i64 hi) GEg11.out
  have sB11_ := blk_put sB11_ 4 (Value.int .i64 tol) rfl
  have sB3_ := blk_far sB3_ (p := ⟨g11, 4, none⟩) N3.out.symm (Value.int .i64 tol)
  have sB4_ := blk_far sB4_ (p := ⟨g11, 4, none⟩) N4.out.symm (Value.int .i64 tol)
  have sHB_ := below_set sHB_ (j := 4) (v := Value.int .i64 tol) GEg11.out
  have sB11_ := blk_put sB11_ 5 (Value.int .i64 mat) rfl
  have sB3_ := blk_far sB3_ (p := ⟨g11, 5, none⟩) N3.out.symm (Value.int .i64 mat)
  have sB4_ := blk_far sB4_ (p := ⟨g11, 5, none⟩) N4.out.symm (Value.int .i64 mat)
  have sHB_ := below_set sHB_ (j := 5) (v := Value.int .i64 mat) GEg11.out
  have sB11_ := blk_put sB11_ 6 (Value.bool pin) rfl
  have sB3_ := blk_far sB3_ (p := ⟨g11, 6, none⟩) N3.out.symm (Value.bool pin)
  have sB4_ := blk_far sB4_ (p := ⟨g11, 6, none⟩) N4.out.symm (Value.bool pin)
  have sHB_ := below_set sHB_ (j := 6) (v := Value.bool pin) GEg11.out
  generalize (((((((w_.setCell ⟨g11, 0, none⟩ (Value.int .i64 x)).setCell ⟨g11, 1, none⟩ (Value.int .i64 y)).setCell ⟨g11, 2, none⟩ (Value.int .i64 lo)).setCell ⟨g11, 3, none⟩ (Value.int .i64 hi)).setCell ⟨g11, 4, none⟩ (Value.int .i64 tol)).setCell ⟨g11, 5, none⟩ (Value.int .i64 mat)).setCell ⟨g11, 6, none⟩ (Value.bool pin)) = w7 at sB11_ sB3_ sB4_ sHB_ ⊢
  clear B11 B3 B4 HB
  have B11 := Aside0.mk sB11_
  have B3 := Aside0.mk sB3_
  have B4 := Aside0.mk sB4_
  have HB := Aside0.mk sHB_
  clear sB11_ sB3_ sB4_ sHB_
  clear o0 oz0 o1 oz1 o2 oz2 o3 oz3 o4 oz4 o5 oz5 o6 oz6
  have B11 : Aside0 (w7.heap[g11]? = some (.cells #[.int .i64 x, .int .i64 y, .int .i64 lo, .int .i64 hi, .int .i64 tol, .int .i64 mat, .bool pin] 27 (0, 0))) := ⟨B11.out⟩
  have o0 : w7.cell? ⟨g11, 0, none⟩ = some (.int .i64 x) := (blk_cell B11.out 0).trans rfl
  have o1 : w7.cell? ⟨g11, 1, none⟩ = some (.int .i64 y) := (blk_cell B11.out 1).trans rfl
  have o2 : w7.cell? ⟨g11, 2, none⟩ = some (.int .i64 lo) := (blk_cell B11.out 2).trans rfl
  have o3 : w7.cell? ⟨g11, 3, none⟩ = some (.int .i64 hi) := (blk_cell B11.out 3).trans rfl
  have o4 : w7.cell? ⟨g11, 4, none⟩ = some (.int .i64 tol) := (blk_cell B11.out 4).trans rfl
  have o5 : w7.cell? ⟨g11, 5, none⟩ = some (.int .i64 mat) := (blk_cell B11.out 5).trans rfl
  have o6 : w7.cell? ⟨g11, 6, none⟩ = some (.bool pin) := (blk_cell B11.out 6).trans rfl
  have oz0 := blk_frozen B11.out 0
  have oz1 := blk_frozen B11.out 1
  have oz2 := blk_frozen B11.out 2
  have oz3 := blk_frozen B11.out 3
  have oz4 := blk_frozen B11.out 4
  have oz5 := blk_frozen B11.out 5
  have oz6 := blk_frozen B11.out 6
  go_upto_region 9 with (fail)
  have sB11_ := B11.out
  have sB3_ := B3.out
  have sB4_ := B4.out
  have sHB_ := HB.out
  have sB11_ := blk_put sB11_ 4 (Value.int .i64 (wrap64 (tol + wrap64 m))) rfl
  have sB3_ := blk_far sB3_ (p := ⟨g11, 4, none⟩) N3.out.symm (Value.int .i64 (wrap64 (tol + wrap64 m)))
  have sB4_ := blk_far sB4_ (p := ⟨g11, 4, none⟩) N4.out.symm (Value.int .i64 (wrap64 (tol + wrap64 m)))
  have sHB_ := below_set sHB_ (j := 4) (v := Value.int .i64 (wrap64 (tol + wrap64 m))) GEg11.out
  generalize (w7.setCell ⟨g11, 4, none⟩ (Value.int .i64 (wrap64 (tol + wrap64 m)))) = w8 at sB11_ sB3_ sB4_ sHB_ ⊢
  clear B11 B3 B4 HB
  have B11 := Aside0.mk sB11_
  have B3 := Aside0.mk sB3_
  have B4 := Aside0.mk sB4_
  have HB := Aside0.mk sHB_
  clear sB11_ sB3_ sB4_ sHB_
  clear o0 oz0 o1 oz1 o2 oz2 o3 oz3 o4 oz4 o5 oz5 o6 oz6
  have B11 : Aside0 (w8.heap[g11]? = some (.cells #[.int .i64 x, .int .i64 y, .int .i64 lo, .int .i64 hi, .int .i64 (wrap64 (tol + wrap64 m)), .int .i64 mat, .bool pin] 27 (0, 0))) := ⟨B11.out⟩
  have o0 : w8.cell? ⟨g11, 0, none⟩ = some (.int .i64 x) := (blk_cell B11.out 0).trans rfl
  have o1 : w8.cell? ⟨g11, 1, none⟩ = some (.int .i64 y) := (blk_cell B11.out 1).trans rfl
  have o2 : w8.cell? ⟨g11, 2, none⟩ = some (.int .i64 lo) := (blk_cell B11.out 2).trans rfl
  have o3 : w8.cell? ⟨g11, 3, none⟩ = some (.int .i64 hi) := (blk_cell B11.out 3).trans rfl
  have o4 : w8.cell? ⟨g11, 4, none⟩ = some (.int .i64 (wrap64 (tol + wrap64 m))) := (blk_cell B11.out 4).trans rfl
  have o5 : w8.cell? ⟨g11, 5, none⟩ = some (.int .i64 mat) := (blk_cell B11.out 5).trans rfl
  have o6 : w8.cell? ⟨g11, 6, none⟩ = some (.bool pin) := (blk_cell B11.out 6).trans rfl
  have oz0 := blk_frozen B11.out 0
  have oz1 := blk_frozen B11.out 1
  have oz2 := blk_frozen B11.out 2
  have oz3 := blk_frozen B11.out 3
  have oz4 := blk_frozen B11.out 4
  have oz5 := blk_frozen B11.out 5
  have oz6 := blk_frozen B11.out 6
  have p0 : w8.cell? ⟨g3, 0, none⟩ = some (.int .i64 x) := (blk_cell B3.out 0).trans rfl
  have p1 : w8.cell? ⟨g3, 1, none⟩ = some (.int .i64 y) := (blk_cell B3.out 1).trans rfl
  have p2 : w8.cell? ⟨g3, 2, none⟩ = some (.int .i64 lo) := (blk_cell B3.out 2).trans rfl
  have p3 : w8.cell? ⟨g3, 3, none⟩ = some (.int .i64 hi) := (blk_cell B3.out 3).trans rfl
  have p4 : w8.cell? ⟨g3, 4, none⟩ = some (.int .i64 tol) := (blk_cell B3.out 4).trans rfl
  have p5 : w8.cell? ⟨g3, 5, none⟩ = some (.int .i64 mat) := (blk_cell B3.out 5).trans rfl
  have p6 : w8.cell? ⟨g3, 6, none⟩ = some (.bool pin) := (blk_cell B3.out 6).trans rfl
  have pz0 := blk_frozen B3.out 0
  have pz1 := blk_frozen B3.out 1
  have pz2 := blk_frozen B3.out 2
  have pz3 := blk_frozen B3.out 3
  have pz4 := blk_frozen B3.out 4
  have pz5 := blk_frozen B3.out 5
  have pz6 := blk_frozen B3.out 6
  have q0 : w8.cell? ⟨g4, 0, none⟩ = some (.int .i64 u) := (blk_cell B4.out 0).trans rfl
  have q1 : w8.cell? ⟨g4, 1, none⟩ = some (.int .i64 v) := (blk_cell B4.out 1).trans rfl
  have q2 : w8.cell? ⟨g4, 2, none⟩ = some (.int .i64 s) := (blk_cell B4.out 2).trans rfl
  have qz0 := blk_frozen B4.out 0
  have qz1 := blk_frozen B4.out 1
  have qz2 := blk_frozen B4.out 2
  go_upto_region 20 with (first
    | (go_at_call 23; (with_reducible refine (metrolabref44_Check.calls 9 x y lo hi (wrap64 (tol + wrap64 m)) mat pin 0 _ AW.out).mono ?_); rintro e w_ ⟨rfl, hb⟩; have nB3_ := Aside0.mk (blk_below (by (with_reducible repeat (first | refine blk_drewN ?_ _ | refine blk_drew ?_ | refine blk_alloc ?_ _)); exact B3.out) hb); have nB4_ := Aside0.mk (blk_below (by (with_reducible repeat (first | refine blk_drewN ?_ _ | refine blk_drew ?_ | refine blk_alloc ?_ _)); exact B4.out) hb); have nB11_ := Aside0.mk (blk_below (by (with_reducible repeat (first | refine blk_drewN ?_ _ | refine blk_drew ?_ | refine blk_alloc ?_ _)); exact B11.out) hb); have nHB_ := Aside0.mk (below_step (by repeat (first | (with_reducible first | exact HB.out | apply below_alloc | apply pw_below_drewN | apply below_drew1) | exact HB.out)) hb); clear HB B3 B4 B11; have HB := nHB_; have B3 := nB3_; clear nB3_; have B4 := nB4_; clear nB4_; have B11 := nB11_; clear nB11_; clear nHB_; clear hb; clear p0 pz0 p1 pz1 p2 pz2 p3 pz3 p4 pz4 p5 pz5 p6 pz6; clear q0 qz0 q1 qz1 q2 qz2; clear o0 oz0 o1 oz1 o2 oz2 o3 oz3 o4 oz4 o5 oz5 o6 oz6; have p0 : w_.cell? ⟨g3, 0, none⟩ = some (.int .i64 x) := (blk_cell B3.out 0).trans rfl; have p1 : w_.cell? ⟨g3, 1, none⟩ = some (.int .i64 y) := (blk_cell B3.out 1).trans rfl; have p2 : w_.cell? ⟨g3, 2, none⟩ = some (.int .i64 lo) := (blk_cell B3.out 2).trans rfl; have p3 : w_.cell? ⟨g3, 3, none⟩ = some (.int .i64 hi) := (blk_cell B3.out 3).trans rfl; have p4 : w_.cell? ⟨g3, 4, none⟩ = some (.int .i64 tol) := (blk_cell B3.out 4).trans rfl; have p5 : w_.cell? ⟨g3, 5, none⟩ = some (.int .i64 mat) := (blk_cell B3.out 5).trans rfl; have p6 : w_.cell? ⟨g3, 6, none⟩ = some (.bool pin) := (blk_cell B3.out 6).trans rfl; have pz0 := blk_frozen B3.out 0; have pz1 := blk_frozen B3.out 1; have pz2 := blk_frozen B3.out 2; have pz3 := blk_frozen B3.out 3; have pz4 := blk_frozen B3.out 4; have pz5 := blk_frozen B3.out 5; have pz6 := blk_frozen B3.out 6; have q0 : w_.cell? ⟨g4, 0, none⟩ = some (.int .i64 u) := (blk_cell B4.out 0).trans rfl; have q1 : w_.cell? ⟨g4, 1, none⟩ = some (.int .i64 v) := (blk_cell B4.out 1).trans rfl; have q2 : w_.cell? ⟨g4, 2, none⟩ = some (.int .i64 s) := (blk_cell B4.out 2).trans rfl; have qz0 := blk_frozen B4.out 0; have qz1 := blk_frozen B4.out 1; have qz2 := blk_frozen B4.out 2; have o0 : w_.cell? ⟨g11, 0, none⟩ = some (.int .i64 x) := (blk_cell B11.out 0).trans rfl; have o1 : w_.cell? ⟨g11, 1, none⟩ = some (.int .i64 y) := (blk_cell B11.out 1).trans rfl; have o2 : w_.cell? ⟨g11, 2, none⟩ = some (.int .i64 lo) := (blk_cell B11.out 2).trans rfl; have o3 : w_.cell? ⟨g11, 3, none⟩ = some (.int .i64 hi) := (blk_cell B11.out 3).trans rfl; have o4 : w_.cell? ⟨g11, 4, none⟩ = some (.int .i64 (wrap64 (tol + wrap64 m))) := (blk_cell B11.out 4).trans rfl; have o5 : w_.cell? ⟨g11, 5, none⟩ = some (.int .i64 mat) := (blk_cell B11.out 5).trans rfl; have o6 : w_.cell? ⟨g11, 6, none⟩ = some (.bool pin) := (blk_cell B11.out 6).trans rfl; have oz0 := blk_frozen B11.out 0; have oz1 := blk_frozen B11.out 1; have oz2 := blk_frozen B11.out 2; have oz3 := blk_frozen B11.out 3; have oz4 := blk_frozen B11.out 4; have oz5 := blk_frozen B11.out 5; have oz6 := blk_frozen B11.out 6)
    | (go_at_call 45; (with_reducible refine (bonus_Keeps.calls 9 x y lo hi (wrap64 (tol + wrap64 m)) mat pin u v s true 0 _ AX.out (by exact sig_below HS.out (by repeat (first | (with_reducible first | exact HB.out | apply below_alloc | apply pw_below_drewN | apply below_drew1) | exact HB.out)))).mono ?_); rintro e w_ ⟨rfl, hb⟩; have nB3_ := Aside0.mk (blk_below (by (with_reducible repeat (first | refine blk_drewN ?_ _ | refine blk_drew ?_ | refine blk_alloc ?_ _)); exact B3.out) hb); have nB4_ := Aside0.mk (blk_below (by (with_reducible repeat (first | refine blk_drewN ?_ _ | refine blk_drew ?_ | refine blk_alloc ?_ _)); exact B4.out) hb); have nB11_ := Aside0.mk (blk_below (by (with_reducible repeat (first | refine blk_drewN ?_ _ | refine blk_drew ?_ | refine blk_alloc ?_ _)); exact B11.out) hb); have nHB_ := Aside0.mk (below_step (by repeat (first | (with_reducible first | exact HB.out | apply below_alloc | apply pw_below_drewN | apply below_drew1) | exact HB.out)) hb); clear HB B3 B4 B11; have HB := nHB_; have B3 := nB3_; clear nB3_; have B4 := nB4_; clear nB4_; have B11 := nB11_; clear nB11_; clear nHB_; clear hb; clear p0 pz0 p1 pz1 p2 pz2 p3 pz3 p4 pz4 p5 pz5 p6 pz6; clear q0 qz0 q1 qz1 q2 qz2; clear o0 oz0 o1 oz1 o2 oz2 o3 oz3 o4 oz4 o5 oz5 o6 oz6; have p0 : w_.cell? ⟨g3, 0, none⟩ = some (.int .i64 x) := (blk_cell B3.out 0).trans rfl; have p1 : w_.cell? ⟨g3, 1, none⟩ = some (.int .i64 y) := (blk_cell B3.out 1).trans rfl; have p2 : w_.cell? ⟨g3, 2, none⟩ = some (.int .i64 lo) := (blk_cell B3.out 2).trans rfl; have p3 : w_.cell? ⟨g3, 3, none⟩ = some (.int .i64 hi) := (blk_cell B3.out 3).trans rfl; have p4 : w_.cell? ⟨g3, 4, none⟩ = some (.int .i64 tol) := (blk_cell B3.out 4).trans rfl; have p5 : w_.cell? ⟨g3, 5, none⟩ = some (.int .i64 mat) := (blk_cell B3.out 5).trans rfl; have p6 : w_.cell? ⟨g3, 6, none⟩ = some (.bool pin) := (blk_cell B3.out 6).trans rfl; have pz0 := blk_frozen B3.out 0; have pz1 := blk_frozen B3.out 1; have pz2 := blk_frozen B3.out 2; have pz3 := blk_frozen B3.out 3; have pz4 := blk_frozen B3.out 4; have pz5 := blk_frozen B3.out 5; have pz6 := blk_frozen B3.out 6; have q0 : w_.cell? ⟨g4, 0, none⟩ = some (.int .i64 u) := (blk_cell B4.out 0).trans rfl; have q1 : w_.cell? ⟨g4, 1, none⟩ = some (.int .i64 v) := (blk_cell B4.out 1).trans rfl; have q2 : w_.cell? ⟨g4, 2, none⟩ = some (.int .i64 s) := (blk_cell B4.out 2).trans rfl; have qz0 := blk_frozen B4.out 0; have qz1 := blk_frozen B4.out 1; have qz2 := blk_frozen B4.out 2; have o0 : w_.cell? ⟨g11, 0, none⟩ = some (.int .i64 x) := (blk_cell B11.out 0).trans rfl; have o1 : w_.cell? ⟨g11, 1, none⟩ = some (.int .i64 y) := (blk_cell B11.out 1).trans rfl; have o2 : w_.cell? ⟨g11, 2, none⟩ = some (.int .i64 lo) := (blk_cell B11.out 2).trans rfl; have o3 : w_.cell? ⟨g11, 3, none⟩ = some (.int .i64 hi) := (blk_cell B11.out 3).trans rfl; have o4 : w_.cell? ⟨g11, 4, none⟩ = some (.int .i64 (wrap64 (tol + wrap64 m))) := (blk_cell B11.out 4).trans rfl; have o5 : w_.cell? ⟨g11, 5, none⟩ = some (.int .i64 mat) := (blk_cell B11.out 5).trans rfl; have o6 : w_.cell? ⟨g11, 6, none⟩ = some (.bool pin) := (blk_cell B11.out 6).trans rfl; have oz0 := blk_frozen B11.out 0; have oz1 := blk_frozen B11.out 1; have oz2 := blk_frozen B11.out 2; have oz3 := blk_frozen B11.out 3; have oz4 := blk_frozen B11.out 4; have oz5 := blk_frozen B11.out 5; have oz6 := blk_frozen B11.out 6)
    | (go_at_call 46; (with_reducible refine (bonus_KeepsBox.calls 9 x y lo hi (wrap64 (tol + wrap64 m)) mat pin u v s true 0 _ AY.out (by exact sig_below HS.out (by repeat (first | (with_reducible first | exact HB.out | apply below_alloc | apply pw_below_drewN | apply below_drew1) | exact HB.out)))).mono ?_); rintro e w_ ⟨rfl, hb⟩; have nB3_ := Aside0.mk (blk_below (by (with_reducible repeat (first | refine blk_drewN ?_ _ | refine blk_drew ?_ | refine blk_alloc ?_ _)); exact B3.out) hb); have nB4_ := Aside0.mk (blk_below (by (with_reducible repeat (first | refine blk_drewN ?_ _ | refine blk_drew ?_ | refine blk_alloc ?_ _)); exact B4.out) hb); have nB11_ := Aside0.mk (blk_below (by (with_reducible repeat (first | refine blk_drewN ?_ _ | refine blk_drew ?_ | refine blk_alloc ?_ _)); exact B11.out) hb); have nHB_ := Aside0.mk (below_step (by repeat (first | (with_reducible first | exact HB.out | apply below_alloc | apply pw_below_drewN | apply below_drew1) | exact HB.out)) hb); clear HB B3 B4 B11; have HB := nHB_; have B3 := nB3_; clear nB3_; have B4 := nB4_; clear nB4_; have B11 := nB11_; clear nB11_; clear nHB_; clear hb; clear p0 pz0 p1 pz1 p2 pz2 p3 pz3 p4 pz4 p5 pz5 p6 pz6; clear q0 qz0 q1 qz1 q2 qz2; clear o0 oz0 o1 oz1 o2 oz2 o3 oz3 o4 oz4 o5 oz5 o6 oz6; have p0 : w_.cell? ⟨g3, 0, none⟩ = some (.int .i64 x) := (blk_cell B3.out 0).trans rfl; have p1 : w_.cell? ⟨g3, 1, none⟩ = some (.int .i64 y) := (blk_cell B3.out 1).trans rfl; have p2 : w_.cell? ⟨g3, 2, none⟩ = some (.int .i64 lo) := (blk_cell B3.out 2).trans rfl; have p3 : w_.cell? ⟨g3, 3, none⟩ = some (.int .i64 hi) := (blk_cell B3.out 3).trans rfl; have p4 : w_.cell? ⟨g3, 4, none⟩ = some (.int .i64 tol) := (blk_cell B3.out 4).trans rfl; have p5 : w_.cell? ⟨g3, 5, none⟩ = some (.int .i64 mat) := (blk_cell B3.out 5).trans rfl; have p6 : w_.cell? ⟨g3, 6, none⟩ = some (.bool pin) := (blk_cell B3.out 6).trans rfl; have pz0 := blk_frozen B3.out 0; have pz1 := blk_frozen B3.out 1; have pz2 := blk_frozen B3.out 2; have pz3 := blk_frozen B3.out 3; have pz4 := blk_frozen B3.out 4; have pz5 := blk_frozen B3.out 5; have pz6 := blk_frozen B3.out 6; have q0 : w_.cell? ⟨g4, 0, none⟩ = some (.int .i64 u) := (blk_cell B4.out 0).trans rfl; have q1 : w_.cell? ⟨g4, 1, none⟩ = some (.int .i64 v) := (blk_cell B4.out 1).trans rfl; have q2 : w_.cell? ⟨g4, 2, none⟩ = some (.int .i64 s) := (blk_cell B4.out 2).trans rfl; have qz0 := blk_frozen B4.out 0; have qz1 := blk_frozen B4.out 1; have qz2 := blk_frozen B4.out 2; have o0 : w_.cell? ⟨g11, 0, none⟩ = some (.int .i64 x) := (blk_cell B11.out 0).trans rfl; have o1 : w_.cell? ⟨g11, 1, none⟩ = some (.int .i64 y) := (blk_cell B11.out 1).trans rfl; have o2 : w_.cell? ⟨g11, 2, none⟩ = some (.int .i64 lo) := (blk_cell B11.out 2).trans rfl; have o3 : w_.cell? ⟨g11, 3, none⟩ = some (.int .i64 hi) := (blk_cell B11.out 3).trans rfl; have o4 : w_.cell? ⟨g11, 4, none⟩ = some (.int .i64 (wrap64 (tol + wrap64 m))) := (blk_cell B11.out 4).trans rfl; have o5 : w_.cell? ⟨g11, 5, none⟩ = some (.int .i64 mat) := (blk_cell B11.out 5).trans rfl; have o6 : w_.cell? ⟨g11, 6, none⟩ = some (.bool pin) := (blk_cell B11.out 6).trans rfl; have oz0 := blk_frozen B11.out 0; have oz1 := blk_frozen B11.out 1; have oz2 := blk_frozen B11.out 2; have oz3 := blk_frozen B11.out 3; have oz4 := blk_frozen B11.out 4; have oz5 := blk_frozen B11.out 5; have oz6 := blk_frozen B11.out 6)
    | (go_at_call 27; (with_reducible refine (bonus_Allowed.calls 9 x y lo hi tol mat pin s n 0 _ AL.out (by exact sig_below HS.out (by repeat (first | (with_reducible first | exact HB.out | apply below_alloc | apply pw_below_drewN | apply below_drew1) | exact HB.out)))).mono ?_); rintro e w_ ⟨rfl, hb⟩; have nB3_ := Aside0.mk (blk_below (by (with_reducible repeat (first | refine blk_drewN ?_ _ | refine blk_drew ?_ | refine blk_alloc ?_ _)); exact B3.out) hb); have nB4_ := Aside0.mk (blk_below (by (with_reducible repeat (first | refine blk_drewN ?_ _ | refine blk_drew ?_ | refine blk_alloc ?_ _)); exact B4.out) hb); have nB11_ := Aside0.mk (blk_below (by (with_reducible repeat (first | refine blk_drewN ?_ _ | refine blk_drew ?_ | refine blk_alloc ?_ _)); exact B11.out) hb); have nHB_ := Aside0.mk (below_step (by repeat (first | (with_reducible first | exact HB.out | apply below_alloc | apply pw_below_drewN | apply below_drew1) | exact HB.out)) hb); clear HB B3 B4 B11; have HB := nHB_; have B3 := nB3_; clear nB3_; have B4 := nB4_; clear nB4_; have B11 := nB11_; clear nB11_; clear nHB_; clear hb; clear p0 pz0 p1 pz1 p2 pz2 p3 pz3 p4 pz4 p5 pz5 p6 pz6; clear q0 qz0 q1 qz1 q2 qz2; clear o0 oz0 o1 oz1 o2 oz2 o3 oz3 o4 oz4 o5 oz5 o6 oz6; have p0 : w_.cell? ⟨g3, 0, none⟩ = some (.int .i64 x) := (blk_cell B3.out 0).trans rfl; have p1 : w_.cell? ⟨g3, 1, none⟩ = some (.int .i64 y) := (blk_cell B3.out 1).trans rfl; have p2 : w_.cell? ⟨g3, 2, none⟩ = some (.int .i64 lo) := (blk_cell B3.out 2).trans rfl; have p3 : w_.cell? ⟨g3, 3, none⟩ = some (.int .i64 hi) := (blk_cell B3.out 3).trans rfl; have p4 : w_.cell? ⟨g3, 4, none⟩ = some (.int .i64 tol) := (blk_cell B3.out 4).trans rfl; have p5 : w_.cell? ⟨g3, 5, none⟩ = some (.int .i64 mat) := (blk_cell B3.out 5).trans rfl; have p6 : w_.cell? ⟨g3, 6, none⟩ = some (.bool pin) := (blk_cell B3.out 6).trans rfl; have pz0 := blk_frozen B3.out 0; have pz1 := blk_frozen B3.out 1; have pz2 := blk_frozen B3.out 2; have pz3 := blk_frozen B3.out 3; have pz4 := blk_frozen B3.out 4; have pz5 := blk_frozen B3.out 5; have pz6 := blk_frozen B3.out 6; have q0 : w_.cell? ⟨g4, 0, none⟩ = some (.int .i64 u) := (blk_cell B4.out 0).trans rfl; have q1 : w_.cell? ⟨g4, 1, none⟩ = some (.int .i64 v) := (blk_cell B4.out 1).trans rfl; have q2 : w_.cell? ⟨g4, 2, none⟩ = some (.int .i64 s) := (blk_cell B4.out 2).trans rfl; have qz0 := blk_frozen B4.out 0; have qz1 := blk_frozen B4.out 1; have qz2 := blk_frozen B4.out 2; have o0 : w_.cell? ⟨g11, 0, none⟩ = some (.int .i64 x) := (blk_cell B11.out 0).trans rfl; have o1 : w_.cell? ⟨g11, 1, none⟩ = some (.int .i64 y) := (blk_cell B11.out 1).trans rfl; have o2 : w_.cell? ⟨g11, 2, none⟩ = some (.int .i64 lo) := (blk_cell B11.out 2).trans rfl; have o3 : w_.cell? ⟨g11, 3, none⟩ = some (.int .i64 hi) := (blk_cell B11.out 3).trans rfl; have o4 : w_.cell? ⟨g11, 4, none⟩ = some (.int .i64 (wrap64 (tol + wrap64 m))) := (blk_cell B11.out 4).trans rfl; have o5 : w_.cell? ⟨g11, 5, none⟩ = some (.int .i64 mat) := (blk_cell B11.out 5).trans rfl; have o6 : w_.cell? ⟨g11, 6, none⟩ = some (.bool pin) := (blk_cell B11.out 6).trans rfl; have oz0 := blk_frozen B11.out 0; have oz1 := blk_frozen B11.out 1; have oz2 := blk_frozen B11.out 2; have oz3 := blk_frozen B11.out 3; have oz4 := blk_frozen B11.out 4; have oz5 := blk_frozen B11.out 5; have oz6 := blk_frozen B11.out 6)
    | ((with_reducible refine gate_dst (N := 17) rfl ?_); refine box_event ?hg (N := 17) ?hd (cs := #[.int .i64 0, .int .i64 0, .int .i64 0, .int .i64 0, .int .i64 0, .int .i64 0, .bool false]) (t := 27) ?hr ?_; (case hd => rfl); (case hg => rfl); (case hr => first | (go_simp; done) | (go_simp; rfl)); intro g17 hg w_ hbox hb; have GEg17 := Aside0.mk (by rw [hg]; exact below_size (by repeat (first | (with_reducible first | exact HB.out | apply below_alloc | apply pw_below_drewN | apply below_drew1) | exact HB.out)) : w.heap.size ≤ g17); have nB3_ := Aside0.mk (blk_below (by (with_reducible repeat (first | refine blk_drewN ?_ _ | refine blk_drew ?_ | refine blk_alloc ?_ _)); exact B3.out) hb); have nB4_ := Aside0.mk (blk_below (by (with_reducible repeat (first | refine blk_drewN ?_ _ | refine blk_drew ?_ | refine blk_alloc ?_ _)); exact B4.out) hb); have nHB_ := Aside0.mk (below_step (by repeat (first | (with_reducible first | exact HB.out | apply below_alloc | apply pw_below_drewN | apply below_drew1) | exact HB.out)) hb); have B3o_ := B3; have B4o_ := B4; clear HB B3 B4; have HB := nHB_; have B3 := nB3_; clear nB3_; have B4 := nB4_; clear nB4_; clear nHB_; have B17 := Aside0.mk hbox; have N5 := Aside0.mk (by rw [hg]; exact Nat.ne_of_gt (blk_lt (by (with_reducible repeat (first | refine blk_drewN ?_ _ | refine blk_drew ?_ | refine blk_alloc ?_ _)); exact B3o_.out)) : g17 ≠ g3); have N6 := Aside0.mk (by rw [hg]; exact Nat.ne_of_gt (blk_lt (by (with_reducible repeat (first | refine blk_drewN ?_ _ | refine blk_drew ?_ | refine blk_alloc ?_ _)); exact B4o_.out)) : g17 ≠ g4); clear B3o_ B4o_; clear hg hbox hb; clear p0 pz0 p1 pz1 p2 pz2 p3 pz3 p4 pz4 p5 pz5 p6 pz6; clear q0 qz0 q1 qz1 q2 qz2; clear o0 oz0 o1 oz1 o2 oz2 o3 oz3 o4 oz4 o5 oz5 o6 oz6; have r0 : w_.cell? ⟨g17, 0, none⟩ = some (.int .i64 0) := (blk_cell B17.out 0).trans rfl; have r1 : w_.cell? ⟨g17, 1, none⟩ = some (.int .i64 0) := (blk_cell B17.out 1).trans rfl; have r2 : w_.cell? ⟨g17, 2, none⟩ = some (.int .i64 0) := (blk_cell B17.out 2).trans rfl; have r3 : w_.cell? ⟨g17, 3, none⟩ = some (.int .i64 0) := (blk_cell B17.out 3).trans rfl; have r4 : w_.cell? ⟨g17, 4, none⟩ = some (.int .i64 0) := (blk_cell B17.out 4).trans rfl; have r5 : w_.cell? ⟨g17, 5, none⟩ = some (.int .i64 0) := (blk_cell B17.out 5).trans rfl; have r6 : w_.cell? ⟨g17, 6, none⟩ = some (.bool false) := (blk_cell B17.out 6).trans rfl; have rz0 := blk_frozen B17.out 0; have rz1 := blk_frozen B17.out 1; have rz2 := blk_frozen B17.out 2; have rz3 := blk_frozen B17.out 3; have rz4 := blk_frozen B17.out 4; have rz5 := blk_frozen B17.out 5; have rz6 := blk_frozen B17.out 6))
  have sB17_ := B17.out
  have sB3_ := B3.out
  have sB4_ := B4.out
  have sHB_ := HB.out
  have sB17_ := blk_put sB17_ 0 (Value.int .i64 x) rfl
  have sB3_ := blk_far sB3_ (p := ⟨g17, 0, none⟩) N5.out.symm (Value.int .i64 x)
  have sB4_ := blk_far sB4_ (p := ⟨g17, 0, none⟩) N6.out.symm (Value.int .i64 x)
  have sHB_ := below_set sHB_ (j := 0) (v := Value.int .i64 x) GEg17.out
  have sB17_ := blk_put sB17_ 1 (Value.int .i64 y) rfl
  have sB3_ := blk_far sB3_ (p := ⟨g17, 1, none⟩) N5.out.symm (Value.int .i64 y)
  have sB4_ := blk_far sB4_ (p := ⟨g17, 1, none⟩) N6.out.symm (Value.int .i64 y)
  have sHB_ := below_set sHB_ (j := 1) (v := Value.int .i64 y) GEg17.out
  have sB17_ := blk_put sB17_ 2 (Value.int .i64 lo) rfl
  have sB3_ := blk_far sB3_ (p := ⟨g17, 2, none⟩) N5.out.symm (Value.int .i64 lo)
  have sB4_ := blk_far sB4_ (p := ⟨g17, 2, none⟩) N6.out.symm (Value.int .i64 lo)
  have sHB_ := below_set sHB_ (j := 2) (v := Value.int .i64 lo) GEg17.out
  have sB17_ := blk_put sB17_ 3 (Value.int .i64 hi) rfl
  have sB3_ := blk_far sB3_ (p := ⟨g17, 3, none⟩) N5.out.symm (Value.int .i64 hi)
  have sB4_ := blk_far sB4_ (p := ⟨g17, 3, none⟩) N6.out.symm (Value.int .i64 hi)
  have sHB_ := below_set sHB_ (j := 3) (v := Value.int .i64 hi) GEg17.out
  have sB17_ := blk_put sB17_ 4 (Value.int .i64 tol) rfl
  have sB3_ := blk_far sB3_ (p := ⟨g17, 4, none⟩) N5.out.symm (Value.int .i64 tol)
  have sB4_ := blk_far sB4_ (p := ⟨g17, 4, none⟩) N6.out.symm (Value.int .i64 tol)
  have sHB_ := below_set sHB_ (j := 4) (v := Value.int .i64 tol) GEg17.out
  have sB17_ := blk_put sB17_ 5 (Value.int .i64 mat) rfl
  have sB3_ := blk_far sB3_ (p := ⟨g17, 5, none⟩) N5.out.symm (Value.int .i64 mat)
  have sB4_ := blk_far sB4_ (p := ⟨g17, 5, none⟩) N6.out.symm (Value.int .i64 mat)
  have sHB_ := below_set sHB_ (j := 5) (v := Value.int .i64 mat) GEg17.out
  have sB17_ := blk_put sB17_ 6 (Value.bool pin) rfl
  have sB3_ := blk_far sB3_ (p := ⟨g17, 6, none⟩) N5.out.symm (Value.bool pin)
  have sB4_ := blk_far sB4_ (p := ⟨g17, 6, none⟩) N6.out.symm (Value.bool pin)
  have sHB_ := below_set sHB_ (j := 6) (v := Value.bool pin) GEg17.out
  generalize (((((((w_.setCell ⟨g17, 0, none⟩ (Value.int .i64 x)).setCell ⟨g17, 1, none⟩ (Value.int .i64 y)).setCell ⟨g17, 2, none⟩ (Value.int .i64 lo)).setCell ⟨g17, 3, none⟩ (Value.int .i64 hi)).setCell ⟨g17, 4, none⟩ (Value.int .i64 tol)).setCell ⟨g17, 5, none⟩ (Value.int .i64 mat)).setCell ⟨g17, 6, none⟩ (Value.bool pin)) = w9 at sB17_ sB3_ sB4_ sHB_ ⊢
  clear B17 B3 B4 HB
  have B17 := Aside0.mk sB17_
  have B3 := Aside0.mk sB3_
  have B4 := Aside0.mk sB4_
  have HB := Aside0.mk sHB_
  clear sB17_ sB3_ sB4_ sHB_
  clear r0 rz0 r1 rz1 r2 rz2 r3 rz3 r4 rz4 r5 rz5 r6 rz6
  have B17 : Aside0 (w9.heap[g17]? = some (.cells #[.int .i64 x, .int .i64 y, .int .i64 lo, .int .i64 hi, .int .i64 tol, .int .i64 mat, .bool pin] 27 (0, 0))) := ⟨B17.out⟩
  have r0 : w9.cell? ⟨g17, 0, none⟩ = some (.int .i64 x) := (blk_cell B17.out 0).trans rfl
  have r1 : w9.cell? ⟨g17, 1, none⟩ = some (.int .i64 y) := (blk_cell B17.out 1).trans rfl
  have r2 : w9.cell? ⟨g17, 2, none⟩ = some (.int .i64 lo) := (blk_cell B17.out 2).trans rfl
  have r3 : w9.cell? ⟨g17, 3, none⟩ = some (.int .i64 hi) := (blk_cell B17.out 3).trans rfl
  have r4 : w9.cell? ⟨g17, 4, none⟩ = some (.int .i64 tol) := (blk_cell B17.out 4).trans rfl
  have r5 : w9.cell? ⟨g17, 5, none⟩ = some (.int .i64 mat) := (blk_cell B17.out 5).trans rfl
  have r6 : w9.cell? ⟨g17, 6, none⟩ = some (.bool pin) := (blk_cell B17.out 6).trans rfl
  have rz0 := blk_frozen B17.out 0
  have rz1 := blk_frozen B17.out 1
  have rz2 := blk_frozen B17.out 2
  have rz3 := blk_frozen B17.out 3
  have rz4 := blk_frozen B17.out 4
  have rz5 := blk_frozen B17.out 5
  have rz6 := blk_frozen B17.out 6
  go_upto_region 21 with (fail)
  have sB17_ := B17.out
  have sB3_ := B3.out
  have sB4_ := B4.out
  have sHB_ := HB.out
  have sB17_ := blk_put sB17_ 4 (Value.int .i64 (wrap64 (tol + wrap64 (Int.tdiv (wrap64 (n + 1)) 2)))) rfl
  have sB3_ := blk_far sB3_ (p := ⟨g17, 4, none⟩) N5.out.symm (Value.int .i64 (wrap64 (tol + wrap64 (Int.tdiv (wrap64 (n + 1)) 2))))
  have sB4_ := blk_far sB4_ (p := ⟨g17, 4, none⟩) N6.out.symm (Value.int .i64 (wrap64 (tol + wrap64 (Int.tdiv (wrap64 (n + 1)) 2))))
  have sHB_ := below_set sHB_ (j := 4) (v := Value.int .i64 (wrap64 (tol + wrap64 (Int.tdiv (wrap64 (n + 1)) 2)))) GEg17.out
  generalize (w9.setCell ⟨g17, 4, none⟩ (Value.int .i64 (wrap64 (tol + wrap64 (Int.tdiv (wrap64 (n + 1)) 2))))) = wA at sB17_ sB3_ sB4_ sHB_ ⊢
  clear B17 B3 B4 HB
  have B17 := Aside0.mk sB17_
  have B3 := Aside0.mk sB3_
  have B4 := Aside0.mk sB4_
  have HB := Aside0.mk sHB_
  clear sB17_ sB3_ sB4_ sHB_
  clear r0 rz0 r1 rz1 r2 rz2 r3 rz3 r4 rz4 r5 rz5 r6 rz6
  have B17 : Aside0 (wA.heap[g17]? = some (.cells #[.int .i64 x, .int .i64 y, .int .i64 lo, .int .i64 hi, .int .i64 (wrap64 (tol + wrap64 (Int.tdiv (wrap64 (n + 1)) 2))), .int .i64 mat, .bool pin] 27 (0, 0))) := ⟨B17.out⟩
  have r0 : wA.cell? ⟨g17, 0, none⟩ = some (.int .i64 x) := (blk_cell B17.out 0).trans rfl
  have r1 : wA.cell? ⟨g17, 1, none⟩ = some (.int .i64 y) := (blk_cell B17.out 1).trans rfl
  have r2 : wA.cell? ⟨g17, 2, none⟩ = some (.int .i64 lo) := (blk_cell B17.out 2).trans rfl
  have r3 : wA.cell? ⟨g17, 3, none⟩ = some (.int .i64 hi) := (blk_cell B17.out 3).trans rfl
  have r4 : wA.cell? ⟨g17, 4, none⟩ = some (.int .i64 (wrap64 (tol + wrap64 (Int.tdiv (wrap64 (n + 1)) 2)))) := (blk_cell B17.out 4).trans rfl
  have r5 : wA.cell? ⟨g17, 5, none⟩ = some (.int .i64 mat) := (blk_cell B17.out 5).trans rfl
  have r6 : wA.cell? ⟨g17, 6, none⟩ = some (.bool pin) := (blk_cell B17.out 6).trans rfl
  have rz0 := blk_frozen B17.out 0
  have rz1 := blk_frozen B17.out 1
  have rz2 := blk_frozen B17.out 2
  have rz3 := blk_frozen B17.out 3
  have rz4 := blk_frozen B17.out 4
  have rz5 := blk_frozen B17.out 5
  have rz6 := blk_frozen B17.out 6
  have p0 : wA.cell? ⟨g3, 0, none⟩ = some (.int .i64 x) := (blk_cell B3.out 0).trans rfl
  have p1 : wA.cell? ⟨g3, 1, none⟩ = some (.int .i64 y) := (blk_cell B3.out 1).trans rfl
  have p2 : wA.cell? ⟨g3, 2, none⟩ = some (.int .i64 lo) := (blk_cell B3.out 2).trans rfl
  have p3 : wA.cell? ⟨g3, 3, none⟩ = some (.int .i64 hi) := (blk_cell B3.out 3).trans rfl
  have p4 : wA.cell? ⟨g3, 4, none⟩ = some (.int .i64 tol) := (blk_cell B3.out 4).trans rfl
  have p5 : wA.cell? ⟨g3, 5, none⟩ = some (.int .i64 mat) := (blk_cell B3.out 5).trans rfl
  have p6 : wA.cell? ⟨g3, 6, none⟩ = some (.bool pin) := (blk_cell B3.out 6).trans rfl
  have pz0 := blk_frozen B3.out 0
  have pz1 := blk_frozen B3.out 1
  have pz2 := blk_frozen B3.out 2
  have pz3 := blk_frozen B3.out 3
  have pz4 := blk_frozen B3.out 4
  have pz5 := blk_frozen B3.out 5
  have pz6 := blk_frozen B3.out 6
  have q0 : wA.cell? ⟨g4, 0, none⟩ = some (.int .i64 u) := (blk_cell B4.out 0).trans rfl
  have q1 : wA.cell? ⟨g4, 1, none⟩ = some (.int .i64 v) := (blk_cell B4.out 1).trans rfl
  have q2 : wA.cell? ⟨g4, 2, none⟩ = some (.int .i64 s) := (blk_cell B4.out 2).trans rfl
  have qz0 := blk_frozen B4.out 0
  have qz1 := blk_frozen B4.out 1
  have qz2 := blk_frozen B4.out 2
  go_wp2_with (first
    | (go_at_call 23; (with_reducible refine (metrolabref44_Check.calls 9 x y lo hi (wrap64 (tol + wrap64 (Int.tdiv (wrap64 (n + 1)) 2))) mat pin zh _ AH.out).mono ?_); rintro e w_ ⟨rfl, hb⟩; have nB3_ := Aside0.mk (blk_below (by (with_reducible repeat (first | refine blk_drewN ?_ _ | refine blk_drew ?_ | refine blk_alloc ?_ _)); exact B3.out) hb); have nB4_ := Aside0.mk (blk_below (by (with_reducible repeat (first | refine blk_drewN ?_ _ | refine blk_drew ?_ | refine blk_alloc ?_ _)); exact B4.out) hb); have nB17_ := Aside0.mk (blk_below (by (with_reducible repeat (first | refine blk_drewN ?_ _ | refine blk_drew ?_ | refine blk_alloc ?_ _)); exact B17.out) hb); have nHB_ := Aside0.mk (below_step (by repeat (first | (with_reducible first | exact HB.out | apply below_alloc | apply pw_below_drewN | apply below_drew1) | exact HB.out)) hb); clear HB B3 B4 B17; have HB := nHB_; have B3 := nB3_; clear nB3_; have B4 := nB4_; clear nB4_; have B17 := nB17_; clear nB17_; clear nHB_; clear hb; clear p0 pz0 p1 pz1 p2 pz2 p3 pz3 p4 pz4 p5 pz5 p6 pz6; clear q0 qz0 q1 qz1 q2 qz2; clear r0 rz0 r1 rz1 r2 rz2 r3 rz3 r4 rz4 r5 rz5 r6 rz6; have p0 : w_.cell? ⟨g3, 0, none⟩ = some (.int .i64 x) := (blk_cell B3.out 0).trans rfl; have p1 : w_.cell? ⟨g3, 1, none⟩ = some (.int .i64 y) := (blk_cell B3.out 1).trans rfl; have p2 : w_.cell? ⟨g3, 2, none⟩ = some (.int .i64 lo) := (blk_cell B3.out 2).trans rfl; have p3 : w_.cell? ⟨g3, 3, none⟩ = some (.int .i64 hi) := (blk_cell B3.out 3).trans rfl; have p4 : w_.cell? ⟨g3, 4, none⟩ = some (.int .i64 tol) := (blk_cell B3.out 4).trans rfl; have p5 : w_.cell? ⟨g3, 5, none⟩ = some (.int .i64 mat) := (blk_cell B3.out 5).trans rfl; have p6 : w_.cell? ⟨g3, 6, none⟩ = some (.bool pin) := (blk_cell B3.out 6).trans rfl; have pz0 := blk_frozen B3.out 0; have pz1 := blk_frozen B3.out 1; have pz2 := blk_frozen B3.out 2; have pz3 := blk_frozen B3.out 3; have pz4 := blk_frozen B3.out 4; have pz5 := blk_frozen B3.out 5; have pz6 := blk_frozen B3.out 6; have q0 : w_.cell? ⟨g4, 0, none⟩ = some (.int .i64 u) := (blk_cell B4.out 0).trans rfl; have q1 : w_.cell? ⟨g4, 1, none⟩ = some (.int .i64 v) := (blk_cell B4.out 1).trans rfl; have q2 : w_.cell? ⟨g4, 2, none⟩ = some (.int .i64 s) := (blk_cell B4.out 2).trans rfl; have qz0 := blk_frozen B4.out 0; have qz1 := blk_frozen B4.out 1; have qz2 := blk_frozen B4.out 2; have r0 : w_.cell? ⟨g17, 0, none⟩ = some (.int .i64 x) := (blk_cell B17.out 0).trans rfl; have r1 : w_.cell? ⟨g17, 1, none⟩ = some (.int .i64 y) := (blk_cell B17.out 1).trans rfl; have r2 : w_.cell? ⟨g17, 2, none⟩ = some (.int .i64 lo) := (blk_cell B17.out 2).trans rfl; have r3 : w_.cell? ⟨g17, 3, none⟩ = some (.int .i64 hi) := (blk_cell B17.out 3).trans rfl; have r4 : w_.cell? ⟨g17, 4, none⟩ = some (.int .i64 (wrap64 (tol + wrap64 (Int.tdiv (wrap64 (n + 1)) 2)))) := (blk_cell B17.out 4).trans rfl; have r5 : w_.cell? ⟨g17, 5, none⟩ = some (.int .i64 mat) := (blk_cell B17.out 5).trans rfl; have r6 : w_.cell? ⟨g17, 6, none⟩ = some (.bool pin) := (blk_cell B17.out 6).trans rfl; have rz0 := blk_frozen B17.out 0; have rz1 := blk_frozen B17.out 1; have rz2 := blk_frozen B17.out 2; have rz3 := blk_frozen B17.out 3; have rz4 := blk_frozen B17.out 4; have rz5 := blk_frozen B17.out 5; have rz6 := blk_frozen B17.out 6)
    | (go_at_call 24; (with_reducible refine (metrolablaw44_awake.calls true _ AA.out (by exact sig_below HS.out (by repeat (first | (with_reducible first | exact HB.out | apply below_alloc | apply pw_below_drewN | apply below_drew1) | exact HB.out)))).mono ?_); rintro e w_ ⟨rfl, hb⟩; have nB3_ := Aside0.mk (blk_below (by (with_reducible repeat (first | refine blk_drewN ?_ _ | refine blk_drew ?_ | refine blk_alloc ?_ _)); exact B3.out) hb); have nB4_ := Aside0.mk (blk_below (by (with_reducible repeat (first | refine blk_drewN ?_ _ | refine blk_drew ?_ | refine blk_alloc ?_ _)); exact B4.out) hb); have nHB_ := Aside0.mk (below_step (by repeat (first | (with_reducible first | exact HB.out | apply below_alloc | apply pw_below_drewN | apply below_drew1) | exact HB.out)) hb); clear HB B3 B4; have HB := nHB_; have B3 := nB3_; clear nB3_; have B4 := nB4_; clear nB4_; clear nHB_; clear hb))
  go_ret
  exact ⟨rfl, by repeat (first | (with_reducible first | exact HB.out | apply below_alloc | apply pw_below_drewN | apply below_drew1) | exact HB.out)⟩
set_option maxHeartbeats 8000000 in
set_option maxRecDepth 100000 in
theorem boxes_tt00 (x y lo hi tol mat : Int) (pin : Bool) (u v s m : Int) (w : World) (hS : SignsAt w) (hC : metrolabref44_Check.f 9 x y lo hi tol mat pin = some 0) (hR : metrolabref44_Ring.f u v s = some 0) (hK : bonus_Keeps.f 9 x y lo hi tol mat pin u v s = some (true, 0)) (hB : bonus_KeepsBox.f 9 x y lo hi tol mat pin u v s = some (true, 0)) (hW : metrolabref44_Check.f 9 x y lo hi (wrap64 (tol + wrap64 m)) mat pin = some 0) (hX : bonus_Keeps.f 9 x y lo hi (wrap64 (tol + wrap64 m)) mat pin u v s = some (true, 0)) (hY : bonus_KeepsBox.f 9 x y lo hi (wrap64 (tol + wrap64 m)) mat pin u v s = some (true, 0)) (n : Int) (hL : bonus_Allowed.f 9 x y lo hi tol mat pin s = some (n, 0)) (hH : metrolabref44_Check.f 9 x y lo hi (wrap64 (tol + wrap64 (Int.tdiv (wrap64 (n + 1)) 2))) mat pin = some 0) (hJ : bonus_Keeps.f 9 x y lo hi (wrap64 (tol + wrap64 (Int.tdiv (wrap64 (n + 1)) 2))) mat pin u v s = some (true, 0)) :
    Calls Tryd.prog 10 #[.agg #[.int .i64 x, .int .i64 y, .int .i64 lo, .int .i64 hi, .int .i64 tol, .int .i64 mat, .bool pin], .agg #[.int .i64 u, .int .i64 v, .int .i64 s], .int .u8 m] w fun e w' => e = .returned (.bool true) ∧ Below w.heap.size w w' := by
  have hu27 := Tryd.underlying27
  have hu68 := Tryd.underlying68
  have HS := Aside0.mk hS
  have HB := Aside0.mk (Below.refl w.heap.size w)
  have AA := Aside0.mk (show metrolablaw44_awake.f = some true from rfl)
  clear hS
  have AC := Aside0.mk hC
  clear hC
  have AR := Aside0.mk hR
  clear hR
  have AK := Aside0.mk hK
  clear hK
  have AB := Aside0.mk hB
  clear hB
  have AW := Aside0.mk hW
  clear hW
  have AX := Aside0.mk hX
  clear hX
  have AY := Aside0.mk hY
  clear hY
  have AL := Aside0.mk hL
  clear hL
  have AH := Aside0.mk hH
  clear hH
  have AJ := Aside0.mk hJ
  clear hJ
  go_enter Tryd.func10, Tryd.ntmps10
  go_upto_region 8 with (first
    | ((with_reducible refine gate_dst (N := 3) rfl ?_); refine box_event ?hg (N := 3) ?hd (cs := #[.int .i64 x, .int .i64 y, .int .i64 lo, .int .i64 hi, .int .i64 tol, .int .i64 mat, .bool pin]) (t := 27) ?hr ?_; (case hd => rfl); (case hg => rfl); (case hr => first | (go_simp; done) | (go_simp; rfl)); intro g3 hg w_ hbox hb; have GEg3 := Aside0.mk (by rw [hg]; exact below_size (by repeat (first | (with_reducible first | exact HB.out | apply below_alloc | apply pw_below_drewN | apply below_drew1) | exact HB.out)) : w.heap.size ≤ g3); have nHB_ := Aside0.mk (below_step (by repeat (first | (with_reducible first | exact HB.out | apply below_alloc | apply pw_below_drewN | apply below_drew1) | exact HB.out)) hb); clear HB ; have HB := nHB_; clear nHB_; have B3 := Aside0.mk hbox; clear hg hbox hb; have p0 : w_.cell? ⟨g3, 0, none⟩ = some (.int .i64 x) := (blk_cell B3.out 0).trans rfl; have p1 : w_.cell? ⟨g3, 1, none⟩ = some (.int .i64 y) := (blk_cell B3.out 1).trans rfl; have p2 : w_.cell? ⟨g3, 2, none⟩ = some (.int .i64 lo) := (blk_cell B3.out 2).trans rfl; have p3 : w_.cell? ⟨g3, 3, none⟩ = some (.int .i64 hi) := (blk_cell B3.out 3).trans rfl; have p4 : w_.cell? ⟨g3, 4, none⟩ = some (.int .i64 tol) := (blk_cell B3.out 4).trans rfl; have p5 : w_.cell? ⟨g3, 5, none⟩ = some (.int .i64 mat) := (blk_cell B3.out 5).trans rfl; have p6 : w_.cell? ⟨g3, 6, none⟩ = some (.bool pin) := (blk_cell B3.out 6).trans rfl; have pz0 := blk_frozen B3.out 0; have pz1 := blk_frozen B3.out 1; have pz2 := blk_frozen B3.out 2; have pz3 := blk_frozen B3.out 3; have pz4 := blk_frozen B3.out 4; have pz5 := blk_frozen B3.out 5; have pz6 := blk_frozen B3.out 6)
    | ((with_reducible refine gate_dst (N := 4) rfl ?_); refine box_event ?hg (N := 4) ?hd (cs := #[.int .i64 u, .int .i64 v, .int .i64 s]) (t := 68) ?hr ?_; (case hd => rfl); (case hg => rfl); (case hr => first | (go_simp; done) | (go_simp; rfl)); intro g4 hg w_ hbox hb; have GEg4 := Aside0.mk (by rw [hg]; exact below_size (by repeat (first | (with_reducible first | exact HB.out | apply below_alloc | apply pw_below_drewN | apply below_drew1) | exact HB.out)) : w.heap.size ≤ g4); have nB3_ := Aside0.mk (blk_below (by (with_reducible repeat (first | refine blk_drewN ?_ _ | refine blk_drew ?_ | refine blk_alloc ?_ _)); exact B3.out) hb); have nHB_ := Aside0.mk (below_step (by repeat (first | (with_reducible first | exact HB.out | apply below_alloc | apply pw_below_drewN | apply below_drew1) | exact HB.out)) hb); have B3o_ := B3; clear HB B3; have HB := nHB_; have B3 := nB3_; clear nB3_; clear nHB_; have B4 := Aside0.mk hbox; have NE := Aside0.mk (by rw [hg]; exact Nat.ne_of_gt (blk_lt (by (with_reducible repeat (first | refine blk_drewN ?_ _ | refine blk_drew ?_ | refine blk_alloc ?_ _)); exact B3o_.out)) : g4 ≠ g3); have NF := Aside0.mk NE.out.symm; clear B3o_; have ne_ := NE.out; have nf_ := NF.out; clear hg hbox hb; clear p0 pz0 p1 pz1 p2 pz2 p3 pz3 p4 pz4 p5 pz5 p6 pz6; have p0 : w_.cell? ⟨g3, 0, none⟩ = some (.int .i64 x) := (blk_cell B3.out 0).trans rfl; have p1 : w_.cell? ⟨g3, 1, none⟩ = some (.int .i64 y) := (blk_cell B3.out 1).trans rfl; have p2 : w_.cell? ⟨g3, 2, none⟩ = some (.int .i64 lo) := (blk_cell B3.out 2).trans rfl; have p3 : w_.cell? ⟨g3, 3, none⟩ = some (.int .i64 hi) := (blk_cell B3.out 3).trans rfl; have p4 : w_.cell? ⟨g3, 4, none⟩ = some (.int .i64 tol) := (blk_cell B3.out 4).trans rfl; have p5 : w_.cell? ⟨g3, 5, none⟩ = some (.int .i64 mat) := (blk_cell B3.out 5).trans rfl; have p6 : w_.cell? ⟨g3, 6, none⟩ = some (.bool pin) := (blk_cell B3.out 6).trans rfl; have pz0 := blk_frozen B3.out 0; have pz1 := blk_frozen B3.out 1; have pz2 := blk_frozen B3.out 2; have pz3 := blk_frozen B3.out 3; have pz4 := blk_frozen B3.out 4; have pz5 := blk_frozen B3.out 5; have pz6 := blk_frozen B3.out 6; have q0 : w_.cell? ⟨g4, 0, none⟩ = some (.int .i64 u) := (blk_cell B4.out 0).trans rfl; have q1 : w_.cell? ⟨g4, 1, none⟩ = some (.int .i64 v) := (blk_cell B4.out 1).trans rfl; have q2 : w_.cell? ⟨g4, 2, none⟩ = some (.int .i64 s) := (blk_cell B4.out 2).trans rfl; have qz0 := blk_frozen B4.out 0; have qz1 := blk_frozen B4.out 1; have qz2 := blk_frozen B4.out 2)
    | (go_at_call 23; (with_reducible refine (metrolabref44_Check.calls 9 x y lo hi tol mat pin 0 _ AC.out).mono ?_); rintro e w_ ⟨rfl, hb⟩; have nB3_ := Aside0.mk (blk_below (by (with_reducible repeat (first | refine blk_drewN ?_ _ | refine blk_drew ?_ | refine blk_alloc ?_ _)); exact B3.out) hb); have nB4_ := Aside0.mk (blk_below (by (with_reducible repeat (first | refine blk_drewN ?_ _ | refine blk_drew ?_ | refine blk_alloc ?_ _)); exact B4.out) hb); have nHB_ := Aside0.mk (below_step (by repeat (first | (with_reducible first | exact HB.out | apply below_alloc | apply pw_below_drewN | apply below_drew1) | exact HB.out)) hb); clear HB B3 B4; have HB := nHB_; have B3 := nB3_; clear nB3_; have B4 := nB4_; clear nB4_; clear nHB_; clear hb; clear p0 pz0 p1 pz1 p2 pz2 p3 pz3 p4 pz4 p5 pz5 p6 pz6; clear q0 qz0 q1 qz1 q2 qz2; have p0 : w_.cell? ⟨g3, 0, none⟩ = some (.int .i64 x) := (blk_cell B3.out 0).trans rfl; have p1 : w_.cell? ⟨g3, 1, none⟩ = some (.int .i64 y) := (blk_cell B3.out 1).trans rfl; have p2 : w_.cell? ⟨g3, 2, none⟩ = some (.int .i64 lo) := (blk_cell B3.out 2).trans rfl; have p3 : w_.cell? ⟨g3, 3, none⟩ = some (.int .i64 hi) := (blk_cell B3.out 3).trans rfl; have p4 : w_.cell? ⟨g3, 4, none⟩ = some (.int .i64 tol) := (blk_cell B3.out 4).trans rfl; have p5 : w_.cell? ⟨g3, 5, none⟩ = some (.int .i64 mat) := (blk_cell B3.out 5).trans rfl; have p6 : w_.cell? ⟨g3, 6, none⟩ = some (.bool pin) := (blk_cell B3.out 6).trans rfl; have pz0 := blk_frozen B3.out 0; have pz1 := blk_frozen B3.out 1; have pz2 := blk_frozen B3.out 2; have pz3 := blk_frozen B3.out 3; have pz4 := blk_frozen B3.out 4; have pz5 := blk_frozen B3.out 5; have pz6 := blk_frozen B3.out 6; have q0 : w_.cell? ⟨g4, 0, none⟩ = some (.int .i64 u) := (blk_cell B4.out 0).trans rfl; have q1 : w_.cell? ⟨g4, 1, none⟩ = some (.int .i64 v) := (blk_cell B4.out 1).trans rfl; have q2 : w_.cell? ⟨g4, 2, none⟩ = some (.int .i64 s) := (blk_cell B4.out 2).trans rfl; have qz0 := blk_frozen B4.out 0; have qz1 := blk_frozen B4.out 1; have qz2 := blk_frozen B4.out 2)
    | (go_at_call 42; (with_reducible refine (metrolabref44_Ring.calls u v s 0 _ AR.out).mono ?_); rintro e w_ ⟨rfl, hb⟩; have nB3_ := Aside0.mk (blk_below (by (with_reducible repeat (first | refine blk_drewN ?_ _ | refine blk_drew ?_ | refine blk_alloc ?_ _)); exact B3.out) hb); have nB4_ := Aside0.mk (blk_below (by (with_reducible repeat (first | refine blk_drewN ?_ _ | refine blk_drew ?_ | refine blk_alloc ?_ _)); exact B4.out) hb); have nHB_ := Aside0.mk (below_step (by repeat (first | (with_reducible first | exact HB.out | apply below_alloc | apply pw_below_drewN | apply below_drew1) | exact HB.out)) hb); clear HB B3 B4; have HB := nHB_; have B3 := nB3_; clear nB3_; have B4 := nB4_; clear nB4_; clear nHB_; clear hb; clear p0 pz0 p1 pz1 p2 pz2 p3 pz3 p4 pz4 p5 pz5 p6 pz6; clear q0 qz0 q1 qz1 q2 qz2; have p0 : w_.cell? ⟨g3, 0, none⟩ = some (.int .i64 x) := (blk_cell B3.out 0).trans rfl; have p1 : w_.cell? ⟨g3, 1, none⟩ = some (.int .i64 y) := (blk_cell B3.out 1).trans rfl; have p2 : w_.cell? ⟨g3, 2, none⟩ = some (.int .i64 lo) := (blk_cell B3.out 2).trans rfl; have p3 : w_.cell? ⟨g3, 3, none⟩ = some (.int .i64 hi) := (blk_cell B3.out 3).trans rfl; have p4 : w_.cell? ⟨g3, 4, none⟩ = some (.int .i64 tol) := (blk_cell B3.out 4).trans rfl; have p5 : w_.cell? ⟨g3, 5, none⟩ = some (.int .i64 mat) := (blk_cell B3.out 5).trans rfl; have p6 : w_.cell? ⟨g3, 6, none⟩ = some (.bool pin) := (blk_cell B3.out 6).trans rfl; have pz0 := blk_frozen B3.out 0; have pz1 := blk_frozen B3.out 1; have pz2 := blk_frozen B3.out 2; have pz3 := blk_frozen B3.out 3; have pz4 := blk_frozen B3.out 4; have pz5 := blk_frozen B3.out 5; have pz6 := blk_frozen B3.out 6; have q0 : w_.cell? ⟨g4, 0, none⟩ = some (.int .i64 u) := (blk_cell B4.out 0).trans rfl; have q1 : w_.cell? ⟨g4, 1, none⟩ = some (.int .i64 v) := (blk_cell B4.out 1).trans rfl; have q2 : w_.cell? ⟨g4, 2, none⟩ = some (.int .i64 s) := (blk_cell B4.out 2).trans rfl; have qz0 := blk_frozen B4.out 0; have qz1 := blk_frozen B4.out 1; have qz2 := blk_frozen B4.out 2)
    | (go_at_call 45; (with_reducible refine (bonus_Keeps.calls 9 x y lo hi tol mat pin u v s true 0 _ AK.out (by exact sig_below HS.out (by repeat (first | (with_reducible first | exact HB.out | apply below_alloc | apply pw_below_drewN | apply below_drew1) | exact HB.out)))).mono ?_); rintro e w_ ⟨rfl, hb⟩; have nB3_ := Aside0.mk (blk_below (by (with_reducible repeat (first | refine blk_drewN ?_ _ | refine blk_drew ?_ | refine blk_alloc ?_ _)); exact B3.out) hb); have nB4_ := Aside0.mk (blk_below (by (with_reducible repeat (first | refine blk_drewN ?_ _ | refine blk_drew ?_ | refine blk_alloc ?_ _)); exact B4.out) hb); have nHB_ := Aside0.mk (below_step (by repeat (first | (with_reducible first | exact HB.out | apply below_alloc | apply pw_below_drewN | apply below_drew1) | exact HB.out)) hb); clear HB B3 B4; have HB := nHB_; have B3 := nB3_; clear nB3_; have B4 := nB4_; clear nB4_; clear nHB_; clear hb; clear p0 pz0 p1 pz1 p2 pz2 p3 pz3 p4 pz4 p5 pz5 p6 pz6; clear q0 qz0 q1 qz1 q2 qz2; have p0 : w_.cell? ⟨g3, 0, none⟩ = some (.int .i64 x) := (blk_cell B3.out 0).trans rfl; have p1 : w_.cell? ⟨g3, 1, none⟩ = some (.int .i64 y) := (blk_cell B3.out 1).trans rfl; have p2 : w_.cell? ⟨g3, 2, none⟩ = some (.int .i64 lo) := (blk_cell B3.out 2).trans rfl; have p3 : w_.cell? ⟨g3, 3, none⟩ = some (.int .i64 hi) := (blk_cell B3.out 3).trans rfl; have p4 : w_.cell? ⟨g3, 4, none⟩ = some (.int .i64 tol) := (blk_cell B3.out 4).trans rfl; have p5 : w_.cell? ⟨g3, 5, none⟩ = some (.int .i64 mat) := (blk_cell B3.out 5).trans rfl; have p6 : w_.cell? ⟨g3, 6, none⟩ = some (.bool pin) := (blk_cell B3.out 6).trans rfl; have pz0 := blk_frozen B3.out 0; have pz1 := blk_frozen B3.out 1; have pz2 := blk_frozen B3.out 2; have pz3 := blk_frozen B3.out 3; have pz4 := blk_frozen B3.out 4; have pz5 := blk_frozen B3.out 5; have pz6 := blk_frozen B3.out 6; have q0 : w_.cell? ⟨g4, 0, none⟩ = some (.int .i64 u) := (blk_cell B4.out 0).trans rfl; have q1 : w_.cell? ⟨g4, 1, none⟩ = some (.int .i64 v) := (blk_cell B4.out 1).trans rfl; have q2 : w_.cell? ⟨g4, 2, none⟩ = some (.int .i64 s) := (blk_cell B4.out 2).trans rfl; have qz0 := blk_frozen B4.out 0; have qz1 := blk_frozen B4.out 1; have qz2 := blk_frozen B4.out 2)
    | (go_at_call 46; (with_reducible refine (bonus_KeepsBox.calls 9 x y lo hi tol mat pin u v s true 0 _ AB.out (by exact sig_below HS.out (by repeat (first | (with_reducible first | exact HB.out | apply below_alloc | apply pw_below_drewN | apply below_drew1) | exact HB.out)))).mono ?_); rintro e w_ ⟨rfl, hb⟩; have nB3_ := Aside0.mk (blk_below (by (with_reducible repeat (first | refine blk_drewN ?_ _ | refine blk_drew ?_ | refine blk_alloc ?_ _)); exact B3.out) hb); have nB4_ := Aside0.mk (blk_below (by (with_reducible repeat (first | refine blk_drewN ?_ _ | refine blk_drew ?_ | refine blk_alloc ?_ _)); exact B4.out) hb); have nHB_ := Aside0.mk (below_step (by repeat (first | (with_reducible first | exact HB.out | apply below_alloc | apply pw_below_drewN | apply below_drew1) | exact HB.out)) hb); clear HB B3 B4; have HB := nHB_; have B3 := nB3_; clear nB3_; have B4 := nB4_; clear nB4_; clear nHB_; clear hb; clear p0 pz0 p1 pz1 p2 pz2 p3 pz3 p4 pz4 p5 pz5 p6 pz6; clear q0 qz0 q1 qz1 q2 qz2; have p0 : w_.cell? ⟨g3, 0, none⟩ = some (.int .i64 x) := (blk_cell B3.out 0).trans rfl; have p1 : w_.cell? ⟨g3, 1, none⟩ = some (.int .i64 y) := (blk_cell B3.out 1).trans rfl; have p2 : w_.cell? ⟨g3, 2, none⟩ = some (.int .i64 lo) := (blk_cell B3.out 2).trans rfl; have p3 : w_.cell? ⟨g3, 3, none⟩ = some (.int .i64 hi) := (blk_cell B3.out 3).trans rfl; have p4 : w_.cell? ⟨g3, 4, none⟩ = some (.int .i64 tol) := (blk_cell B3.out 4).trans rfl; have p5 : w_.cell? ⟨g3, 5, none⟩ = some (.int .i64 mat) := (blk_cell B3.out 5).trans rfl; have p6 : w_.cell? ⟨g3, 6, none⟩ = some (.bool pin) := (blk_cell B3.out 6).trans rfl; have pz0 := blk_frozen B3.out 0; have pz1 := blk_frozen B3.out 1; have pz2 := blk_frozen B3.out 2; have pz3 := blk_frozen B3.out 3; have pz4 := blk_frozen B3.out 4; have pz5 := blk_frozen B3.out 5; have pz6 := blk_frozen B3.out 6; have q0 : w_.cell? ⟨g4, 0, none⟩ = some (.int .i64 u) := (blk_cell B4.out 0).trans rfl; have q1 : w_.cell? ⟨g4, 1, none⟩ = some (.int .i64 v) := (blk_cell B4.out 1).trans rfl; have q2 : w_.cell? ⟨g4, 2, none⟩ = some (.int .i64 s) := (blk_cell B4.out 2).trans rfl; have qz0 := blk_frozen B4.out 0; have qz1 := blk_frozen B4.out 1; have qz2 := blk_frozen B4.out 2)
    | ((with_reducible refine gate_dst (N := 11) rfl ?_); refine box_event ?hg (N := 11) ?hd (cs := #[.int .i64 0, .int .i64 0, .int .i64 0, .int .i64 0, .int .i64 0, .int .i64 0, .bool false]) (t := 27) ?hr ?_; (case hd => rfl); (case hg => rfl); (case hr => first | (go_simp; done) | (go_simp; rfl)); intro g11 hg w_ hbox hb; have GEg11 := Aside0.mk (by rw [hg]; exact below_size (by repeat (first | (with_reducible first | exact HB.out | apply below_alloc | apply pw_below_drewN | apply below_drew1) | exact HB.out)) : w.heap.size ≤ g11); have nB3_ := Aside0.mk (blk_below (by (with_reducible repeat (first | refine blk_drewN ?_ _ | refine blk_drew ?_ | refine blk_alloc ?_ _)); exact B3.out) hb); have nB4_ := Aside0.mk (blk_below (by (with_reducible repeat (first | refine blk_drewN ?_ _ | refine blk_drew ?_ | refine blk_alloc ?_ _)); exact B4.out) hb); have nHB_ := Aside0.mk (below_step (by repeat (first | (with_reducible first | exact HB.out | apply below_alloc | apply pw_below_drewN | apply below_drew1) | exact HB.out)) hb); have B3o_ := B3; have B4o_ := B4; clear HB B3 B4; have HB := nHB_; have B3 := nB3_; clear nB3_; have B4 := nB4_; clear nB4_; clear nHB_; have B11 := Aside0.mk hbox; have N3 := Aside0.mk (by rw [hg]; exact Nat.ne_of_gt (blk_lt (by (with_reducible repeat (first | refine blk_drewN ?_ _ | refine blk_drew ?_ | refine blk_alloc ?_ _)); exact B3o_.out)) : g11 ≠ g3); have N4 := Aside0.mk (by rw [hg]; exact Nat.ne_of_gt (blk_lt (by (with_reducible repeat (first | refine blk_drewN ?_ _ | refine blk_drew ?_ | refine blk_alloc ?_ _)); exact B4o_.out)) : g11 ≠ g4); clear B3o_ B4o_; clear hg hbox hb; clear p0 pz0 p1 pz1 p2 pz2 p3 pz3 p4 pz4 p5 pz5 p6 pz6; clear q0 qz0 q1 qz1 q2 qz2; have o0 : w_.cell? ⟨g11, 0, none⟩ = some (.int .i64 0) := (blk_cell B11.out 0).trans rfl; have o1 : w_.cell? ⟨g11, 1, none⟩ = some (.int .i64 0) := (blk_cell B11.out 1).trans rfl; have o2 : w_.cell? ⟨g11, 2, none⟩ = some (.int .i64 0) := (blk_cell B11.out 2).trans rfl; have o3 : w_.cell? ⟨g11, 3, none⟩ = some (.int .i64 0) := (blk_cell B11.out 3).trans rfl; have o4 : w_.cell? ⟨g11, 4, none⟩ = some (.int .i64 0) := (blk_cell B11.out 4).trans rfl; have o5 : w_.cell? ⟨g11, 5, none⟩ = some (.int .i64 0) := (blk_cell B11.out 5).trans rfl; have o6 : w_.cell? ⟨g11, 6, none⟩ = some (.bool false) := (blk_cell B11.out 6).trans rfl; have oz0 := blk_frozen B11.out 0; have oz1 := blk_frozen B11.out 1; have oz2 := blk_frozen B11.out 2; have oz3 := blk_frozen B11.out 3; have oz4 := blk_frozen B11.out 4; have oz5 := blk_frozen B11.out 5; have oz6 := blk_frozen B11.out 6))
  have sB11_ := B11.out
  have sB3_ := B3.out
  have sB4_ := B4.out
  have sHB_ := HB.out
  have sB11_ := blk_put sB11_ 0 (Value.int .i64 x) rfl
  have sB3_ := blk_far sB3_ (p := ⟨g11, 0, none⟩) N3.out.symm (Value.int .i64 x)
  have sB4_ := blk_far sB4_ (p := ⟨g11, 0, none⟩) N4.out.symm (Value.int .i64 x)
  have sHB_ := below_set sHB_ (j := 0) (v := Value.int .i64 x) GEg11.out
  have sB11_ := blk_put sB11_ 1 (Value.int .i64 y) rfl
  have sB3_ := blk_far sB3_ (p := ⟨g11, 1, none⟩) N3.out.symm (Value.int .i64 y)
  have sB4_ := blk_far sB4_ (p := ⟨g11, 1, none⟩) N4.out.symm (Value.int .i64 y)
  have sHB_ := below_set sHB_ (j := 1) (v := Value.int .i64 y) GEg11.out
  have sB11_ := blk_put sB11_ 2 (Value.int .i64 lo) rfl
  have sB3_ := blk_far sB3_ (p := ⟨g11, 2, none⟩) N3.out.symm (Value.int .i64 lo)
  have sB4_ := blk_far sB4_ (p := ⟨g11, 2, none⟩) N4.out.symm (Value.int .i64 lo)
  have sHB_ := below_set sHB_ (j := 2) (v := Value.int .i64 lo) GEg11.out
  have sB11_ := blk_put sB11_ 3 (Value.int .i64 hi) rfl
  have sB3_ := blk_far sB3_ (p := ⟨g11, 3, none⟩) N3.out.symm (Value.int .i64 hi)
  have sB4_ := blk_far sB4_ (p := ⟨g11, 3, none⟩) N4.out.symm (Value.int .i64 hi)
  have sHB_ := below_set sHB_ (j := 3) (v := Value.int .i64 hi) GEg11.out
  have sB11_ := blk_put sB11_ 4 (Value.int .i64 tol) rfl
  have sB3_ := blk_far sB3_ (p := ⟨g11, 4, none⟩) N3.out.symm (Value.int .i64 tol)
  have sB4_ := blk_far sB4_ (p := ⟨g11, 4, none⟩) N4.out.symm (Value.int .i64 tol)
  have sHB_ := below_set sHB_ (j := 4) (v := Value.int .i64 tol) GEg11.out
  have sB11_ := blk_put sB11_ 5 (Value.int .i64 mat) rfl
  have sB3_ := blk_far sB3_ (p := ⟨g11, 5, none⟩) N3.out.symm (Value.int .i64 mat)
  have sB4_ := blk_far sB4_ (p := ⟨g11, 5, none⟩) N4.out.symm (Value.int .i64 mat)
  have sHB_ := below_set sHB_ (j := 5) (v := Value.int .i64 mat) GEg11.out
  have sB11_ := blk_put sB11_ 6 (Value.bool pin) rfl
  have sB3_ := blk_far sB3_ (p := ⟨g11, 6, none⟩) N3.out.symm (Value.bool pin)
  have sB4_ := blk_far sB4_ (p := ⟨g11, 6, none⟩) N4.out.symm (Value.bool pin)
  have sHB_ := below_set sHB_ (j := 6) (v := Value.bool pin) GEg11.out
  generalize (((((((w_.setCell ⟨g11, 0, none⟩ (Value.int .i64 x)).setCell ⟨g11, 1, none⟩ (Value.int .i64 y)).setCell ⟨g11, 2, none⟩ (Value.int .i64 lo)).setCell ⟨g11, 3, none⟩ (Value.int .i64 hi)).setCell ⟨g11, 4, none⟩ (Value.int .i64 tol)).setCell ⟨g11, 5, none⟩ (Value.int .i64 mat)).setCell ⟨g11, 6, none⟩ (Value.bool pin)) = w7 at sB11_ sB3_ sB4_ sHB_ ⊢
  clear B11 B3 B4 HB
  have B11 := Aside0.mk sB11_
  have B3 := Aside0.mk sB3_
  have B4 := Aside0.mk sB4_
  have HB := Aside0.mk sHB_
  clear sB11_ sB3_ sB4_ sHB_
  clear o0 oz0 o1 oz1 o2 oz2 o3 oz3 o4 oz4 o5 oz5 o6 oz6
  have B11 : Aside0 (w7.heap[g11]? = some (.cells #[.int .i64 x, .int .i64 y, .int .i64 lo, .int .i64 hi, .int .i64 tol, .int .i64 mat, .bool pin] 27 (0, 0))) := ⟨B11.out⟩
  have o0 : w7.cell? ⟨g11, 0, none⟩ = some (.int .i64 x) := (blk_cell B11.out 0).trans rfl
  have o1 : w7.cell? ⟨g11, 1, none⟩ = some (.int .i64 y) := (blk_cell B11.out 1).trans rfl
  have o2 : w7.cell? ⟨g11, 2, none⟩ = some (.int .i64 lo) := (blk_cell B11.out 2).trans rfl
  have o3 : w7.cell? ⟨g11, 3, none⟩ = some (.int .i64 hi) := (blk_cell B11.out 3).trans rfl
  have o4 : w7.cell? ⟨g11, 4, none⟩ = some (.int .i64 tol) := (blk_cell B11.out 4).trans rfl
  have o5 : w7.cell? ⟨g11, 5, none⟩ = some (.int .i64 mat) := (blk_cell B11.out 5).trans rfl
  have o6 : w7.cell? ⟨g11, 6, none⟩ = some (.bool pin) := (blk_cell B11.out 6).trans rfl
  have oz0 := blk_frozen B11.out 0
  have oz1 := blk_frozen B11.out 1
  have oz2 := blk_frozen B11.out 2
  have oz3 := blk_frozen B11.out 3
  have oz4 := blk_frozen B11.out 4
  have oz5 := blk_frozen B11.out 5
  have oz6 := blk_frozen B11.out 6
  go_upto_region 9 with (fail)
  have sB11_ := B11.out
  have sB3_ := B3.out
  have sB4_ := B4.out
  have sHB_ := HB.out
  have sB11_ := blk_put sB11_ 4 (Value.int .i64 (wrap64 (tol + wrap64 m))) rfl
  have sB3_ := blk_far sB3_ (p := ⟨g11, 4, none⟩) N3.out.symm (Value.int .i64 (wrap64 (tol + wrap64 m)))
  have sB4_ := blk_far sB4_ (p := ⟨g11, 4, none⟩) N4.out.symm (Value.int .i64 (wrap64 (tol + wrap64 m)))
  have sHB_ := below_set sHB_ (j := 4) (v := Value.int .i64 (wrap64 (tol + wrap64 m))) GEg11.out
  generalize (w7.setCell ⟨g11, 4, none⟩ (Value.int .i64 (wrap64 (tol + wrap64 m)))) = w8 at sB11_ sB3_ sB4_ sHB_ ⊢
  clear B11 B3 B4 HB
  have B11 := Aside0.mk sB11_
  have B3 := Aside0.mk sB3_
  have B4 := Aside0.mk sB4_
  have HB := Aside0.mk sHB_
  clear sB11_ sB3_ sB4_ sHB_
  clear o0 oz0 o1 oz1 o2 oz2 o3 oz3 o4 oz4 o5 oz5 o6 oz6
  have B11 : Aside0 (w8.heap[g11]? = some (.cells #[.int .i64 x, .int .i64 y, .int .i64 lo, .int .i64 hi, .int .i64 (wrap64 (tol + wrap64 m)), .int .i64 mat, .bool pin] 27 (0, 0))) := ⟨B11.out⟩
  have o0 : w8.cell? ⟨g11, 0, none⟩ = some (.int .i64 x) := (blk_cell B11.out 0).trans rfl
  have o1 : w8.cell? ⟨g11, 1, none⟩ = some (.int .i64 y) := (blk_cell B11.out 1).trans rfl
  have o2 : w8.cell? ⟨g11, 2, none⟩ = some (.int .i64 lo) := (blk_cell B11.out 2).trans rfl
  have o3 : w8.cell? ⟨g11, 3, none⟩ = some (.int .i64 hi) := (blk_cell B11.out 3).trans rfl
  have o4 : w8.cell? ⟨g11, 4, none⟩ = some (.int .i64 (wrap64 (tol + wrap64 m))) := (blk_cell B11.out 4).trans rfl
  have o5 : w8.cell? ⟨g11, 5, none⟩ = some (.int .i64 mat) := (blk_cell B11.out 5).trans rfl
  have o6 : w8.cell? ⟨g11, 6, none⟩ = some (.bool pin) := (blk_cell B11.out 6).trans rfl
  have oz0 := blk_frozen B11.out 0
  have oz1 := blk_frozen B11.out 1
  have oz2 := blk_frozen B11.out 2
  have oz3 := blk_frozen B11.out 3
  have oz4 := blk_frozen B11.out 4
  have oz5 := blk_frozen B11.out 5
  have oz6 := blk_frozen B11.out 6
  have p0 : w8.cell? ⟨g3, 0, none⟩ = some (.int .i64 x) := (blk_cell B3.out 0).trans rfl
  have p1 : w8.cell? ⟨g3, 1, none⟩ = some (.int .i64 y) := (blk_cell B3.out 1).trans rfl
  have p2 : w8.cell? ⟨g3, 2, none⟩ = some (.int .i64 lo) := (blk_cell B3.out 2).trans rfl
  have p3 : w8.cell? ⟨g3, 3, none⟩ = some (.int .i64 hi) := (blk_cell B3.out 3).trans rfl
  have p4 : w8.cell? ⟨g3, 4, none⟩ = some (.int .i64 tol) := (blk_cell B3.out 4).trans rfl
  have p5 : w8.cell? ⟨g3, 5, none⟩ = some (.int .i64 mat) := (blk_cell B3.out 5).trans rfl
  have p6 : w8.cell? ⟨g3, 6, none⟩ = some (.bool pin) := (blk_cell B3.out 6).trans rfl
  have pz0 := blk_frozen B3.out 0
  have pz1 := blk_frozen B3.out 1
  have pz2 := blk_frozen B3.out 2
  have pz3 := blk_frozen B3.out 3
  have pz4 := blk_frozen B3.out 4
  have pz5 := blk_frozen B3.out 5
  have pz6 := blk_frozen B3.out 6
  have q0 : w8.cell? ⟨g4, 0, none⟩ = some (.int .i64 u) := (blk_cell B4.out 0).trans rfl
  have q1 : w8.cell? ⟨g4, 1, none⟩ = some (.int .i64 v) := (blk_cell B4.out 1).trans rfl
  have q2 : w8.cell? ⟨g4, 2, none⟩ = some (.int .i64 s) := (blk_cell B4.out 2).trans rfl
  have qz0 := blk_frozen B4.out 0
  have qz1 := blk_frozen B4.out 1
  have qz2 := blk_frozen B4.out 2
  go_upto_region 20 with (first
    | (go_at_call 23; (with_reducible refine (metrolabref44_Check.calls 9 x y lo hi (wrap64 (tol + wrap64 m)) mat pin 0 _ AW.out).mono ?_); rintro e w_ ⟨rfl, hb⟩; have nB3_ := Aside0.mk (blk_below (by (with_reducible repeat (first | refine blk_drewN ?_ _ | refine blk_drew ?_ | refine blk_alloc ?_ _)); exact B3.out) hb); have nB4_ := Aside0.mk (blk_below (by (with_reducible repeat (first | refine blk_drewN ?_ _ | refine blk_drew ?_ | refine blk_alloc ?_ _)); exact B4.out) hb); have nB11_ := Aside0.mk (blk_below (by (with_reducible repeat (first | refine blk_drewN ?_ _ | refine blk_drew ?_ | refine blk_alloc ?_ _)); exact B11.out) hb); have nHB_ := Aside0.mk (below_step (by repeat (first | (with_reducible first | exact HB.out | apply below_alloc | apply pw_below_drewN | apply below_drew1) | exact HB.out)) hb); clear HB B3 B4 B11; have HB := nHB_; have B3 := nB3_; clear nB3_; have B4 := nB4_; clear nB4_; have B11 := nB11_; clear nB11_; clear nHB_; clear hb; clear p0 pz0 p1 pz1 p2 pz2 p3 pz3 p4 pz4 p5 pz5 p6 pz6; clear q0 qz0 q1 qz1 q2 qz2; clear o0 oz0 o1 oz1 o2 oz2 o3 oz3 o4 oz4 o5 oz5 o6 oz6; have p0 : w_.cell? ⟨g3, 0, none⟩ = some (.int .i64 x) := (blk_cell B3.out 0).trans rfl; have p1 : w_.cell? ⟨g3, 1, none⟩ = some (.int .i64 y) := (blk_cell B3.out 1).trans rfl; have p2 : w_.cell? ⟨g3, 2, none⟩ = some (.int .i64 lo) := (blk_cell B3.out 2).trans rfl; have p3 : w_.cell? ⟨g3, 3, none⟩ = some (.int .i64 hi) := (blk_cell B3.out 3).trans rfl; have p4 : w_.cell? ⟨g3, 4, none⟩ = some (.int .i64 tol) := (blk_cell B3.out 4).trans rfl; have p5 : w_.cell? ⟨g3, 5, none⟩ = some (.int .i64 mat) := (blk_cell B3.out 5).trans rfl; have p6 : w_.cell? ⟨g3, 6, none⟩ = some (.bool pin) := (blk_cell B3.out 6).trans rfl; have pz0 := blk_frozen B3.out 0; have pz1 := blk_frozen B3.out 1; have pz2 := blk_frozen B3.out 2; have pz3 := blk_frozen B3.out 3; have pz4 := blk_frozen B3.out 4; have pz5 := blk_frozen B3.out 5; have pz6 := blk_frozen B3.out 6; have q0 : w_.cell? ⟨g4, 0, none⟩ = some (.int .i64 u) := (blk_cell B4.out 0).trans rfl; have q1 : w_.cell? ⟨g4, 1, none⟩ = some (.int .i64 v) := (blk_cell B4.out 1).trans rfl; have q2 : w_.cell? ⟨g4, 2, none⟩ = some (.int .i64 s) := (blk_cell B4.out 2).trans rfl; have qz0 := blk_frozen B4.out 0; have qz1 := blk_frozen B4.out 1; have qz2 := blk_frozen B4.out 2; have o0 : w_.cell? ⟨g11, 0, none⟩ = some (.int .i64 x) := (blk_cell B11.out 0).trans rfl; have o1 : w_.cell? ⟨g11, 1, none⟩ = some (.int .i64 y) := (blk_cell B11.out 1).trans rfl; have o2 : w_.cell? ⟨g11, 2, none⟩ = some (.int .i64 lo) := (blk_cell B11.out 2).trans rfl; have o3 : w_.cell? ⟨g11, 3, none⟩ = some (.int .i64 hi) := (blk_cell B11.out 3).trans rfl; have o4 : w_.cell? ⟨g11, 4, none⟩ = some (.int .i64 (wrap64 (tol + wrap64 m))) := (blk_cell B11.out 4).trans rfl; have o5 : w_.cell? ⟨g11, 5, none⟩ = some (.int .i64 mat) := (blk_cell B11.out 5).trans rfl; have o6 : w_.cell? ⟨g11, 6, none⟩ = some (.bool pin) := (blk_cell B11.out 6).trans rfl; have oz0 := blk_frozen B11.out 0; have oz1 := blk_frozen B11.out 1; have oz2 := blk_frozen B11.out 2; have oz3 := blk_frozen B11.out 3; have oz4 := blk_frozen B11.out 4; have oz5 := blk_frozen B11.out 5; have oz6 := blk_frozen B11.out 6)
    | (go_at_call 45; (with_reducible refine (bonus_Keeps.calls 9 x y lo hi (wrap64 (tol + wrap64 m)) mat pin u v s true 0 _ AX.out (by exact sig_below HS.out (by repeat (first | (with_reducible first | exact HB.out | apply below_alloc | apply pw_below_drewN | apply below_drew1) | exact HB.out)))).mono ?_); rintro e w_ ⟨rfl, hb⟩; have nB3_ := Aside0.mk (blk_below (by (with_reducible repeat (first | refine blk_drewN ?_ _ | refine blk_drew ?_ | refine blk_alloc ?_ _)); exact B3.out) hb); have nB4_ := Aside0.mk (blk_below (by (with_reducible repeat (first | refine blk_drewN ?_ _ | refine blk_drew ?_ | refine blk_alloc ?_ _)); exact B4.out) hb); have nB11_ := Aside0.mk (blk_below (by (with_reducible repeat (first | refine blk_drewN ?_ _ | refine blk_drew ?_ | refine blk_alloc ?_ _)); exact B11.out) hb); have nHB_ := Aside0.mk (below_step (by repeat (first | (with_reducible first | exact HB.out | apply below_alloc | apply pw_below_drewN | apply below_drew1) | exact HB.out)) hb); clear HB B3 B4 B11; have HB := nHB_; have B3 := nB3_; clear nB3_; have B4 := nB4_; clear nB4_; have B11 := nB11_; clear nB11_; clear nHB_; clear hb; clear p0 pz0 p1 pz1 p2 pz2 p3 pz3 p4 pz4 p5 pz5 p6 pz6; clear q0 qz0 q1 qz1 q2 qz2; clear o0 oz0 o1 oz1 o2 oz2 o3 oz3 o4 oz4 o5 oz5 o6 oz6; have p0 : w_.cell? ⟨g3, 0, none⟩ = some (.int .i64 x) := (blk_cell B3.out 0).trans rfl; have p1 : w_.cell? ⟨g3, 1, none⟩ = some (.int .i64 y) := (blk_cell B3.out 1).trans rfl; have p2 : w_.cell? ⟨g3, 2, none⟩ = some (.int .i64 lo) := (blk_cell B3.out 2).trans rfl; have p3 : w_.cell? ⟨g3, 3, none⟩ = some (.int .i64 hi) := (blk_cell B3.out 3).trans rfl; have p4 : w_.cell? ⟨g3, 4, none⟩ = some (.int .i64 tol) := (blk_cell B3.out 4).trans rfl; have p5 : w_.cell? ⟨g3, 5, none⟩ = some (.int .i64 mat) := (blk_cell B3.out 5).trans rfl; have p6 : w_.cell? ⟨g3, 6, none⟩ = some (.bool pin) := (blk_cell B3.out 6).trans rfl; have pz0 := blk_frozen B3.out 0; have pz1 := blk_frozen B3.out 1; have pz2 := blk_frozen B3.out 2; have pz3 := blk_frozen B3.out 3; have pz4 := blk_frozen B3.out 4; have pz5 := blk_frozen B3.out 5; have pz6 := blk_frozen B3.out 6; have q0 : w_.cell? ⟨g4, 0, none⟩ = some (.int .i64 u) := (blk_cell B4.out 0).trans rfl; have q1 : w_.cell? ⟨g4, 1, none⟩ = some (.int .i64 v) := (blk_cell B4.out 1).trans rfl; have q2 : w_.cell? ⟨g4, 2, none⟩ = some (.int .i64 s) := (blk_cell B4.out 2).trans rfl; have qz0 := blk_frozen B4.out 0; have qz1 := blk_frozen B4.out 1; have qz2 := blk_frozen B4.out 2; have o0 : w_.cell? ⟨g11, 0, none⟩ = some (.int .i64 x) := (blk_cell B11.out 0).trans rfl; have o1 : w_.cell? ⟨g11, 1, none⟩ = some (.int .i64 y) := (blk_cell B11.out 1).trans rfl; have o2 : w_.cell? ⟨g11, 2, none⟩ = some (.int .i64 lo) := (blk_cell B11.out 2).trans rfl; have o3 : w_.cell? ⟨g11, 3, none⟩ = some (.int .i64 hi) := (blk_cell B11.out 3).trans rfl; have o4 : w_.cell? ⟨g11, 4, none⟩ = some (.int .i64 (wrap64 (tol + wrap64 m))) := (blk_cell B11.out 4).trans rfl; have o5 : w_.cell? ⟨g11, 5, none⟩ = some (.int .i64 mat) := (blk_cell B11.out 5).trans rfl; have o6 : w_.cell? ⟨g11, 6, none⟩ = some (.bool pin) := (blk_cell B11.out 6).trans rfl; have oz0 := blk_frozen B11.out 0; have oz1 := blk_frozen B11.out 1; have oz2 := blk_frozen B11.out 2; have oz3 := blk_frozen B11.out 3; have oz4 := blk_frozen B11.out 4; have oz5 := blk_frozen B11.out 5; have oz6 := blk_frozen B11.out 6)
    | (go_at_call 46; (with_reducible refine (bonus_KeepsBox.calls 9 x y lo hi (wrap64 (tol + wrap64 m)) mat pin u v s true 0 _ AY.out (by exact sig_below HS.out (by repeat (first | (with_reducible first | exact HB.out | apply below_alloc | apply pw_below_drewN | apply below_drew1) | exact HB.out)))).mono ?_); rintro e w_ ⟨rfl, hb⟩; have nB3_ := Aside0.mk (blk_below (by (with_reducible repeat (first | refine blk_drewN ?_ _ | refine blk_drew ?_ | refine blk_alloc ?_ _)); exact B3.out) hb); have nB4_ := Aside0.mk (blk_below (by (with_reducible repeat (first | refine blk_drewN ?_ _ | refine blk_drew ?_ | refine blk_alloc ?_ _)); exact B4.out) hb); have nB11_ := Aside0.mk (blk_below (by (with_reducible repeat (first | refine blk_drewN ?_ _ | refine blk_drew ?_ | refine blk_alloc ?_ _)); exact B11.out) hb); have nHB_ := Aside0.mk (below_step (by repeat (first | (with_reducible first | exact HB.out | apply below_alloc | apply pw_below_drewN | apply below_drew1) | exact HB.out)) hb); clear HB B3 B4 B11; have HB := nHB_; have B3 := nB3_; clear nB3_; have B4 := nB4_; clear nB4_; have B11 := nB11_; clear nB11_; clear nHB_; clear hb; clear p0 pz0 p1 pz1 p2 pz2 p3 pz3 p4 pz4 p5 pz5 p6 pz6; clear q0 qz0 q1 qz1 q2 qz2; clear o0 oz0 o1 oz1 o2 oz2 o3 oz3 o4 oz4 o5 oz5 o6 oz6; have p0 : w_.cell? ⟨g3, 0, none⟩ = some (.int .i64 x) := (blk_cell B3.out 0).trans rfl; have p1 : w_.cell? ⟨g3, 1, none⟩ = some (.int .i64 y) := (blk_cell B3.out 1).trans rfl; have p2 : w_.cell? ⟨g3, 2, none⟩ = some (.int .i64 lo) := (blk_cell B3.out 2).trans rfl; have p3 : w_.cell? ⟨g3, 3, none⟩ = some (.int .i64 hi) := (blk_cell B3.out 3).trans rfl; have p4 : w_.cell? ⟨g3, 4, none⟩ = some (.int .i64 tol) := (blk_cell B3.out 4).trans rfl; have p5 : w_.cell? ⟨g3, 5, none⟩ = some (.int .i64 mat) := (blk_cell B3.out 5).trans rfl; have p6 : w_.cell? ⟨g3, 6, none⟩ = some (.bool pin) := (blk_cell B3.out 6).trans rfl; have pz0 := blk_frozen B3.out 0; have pz1 := blk_frozen B3.out 1; have pz2 := blk_frozen B3.out 2; have pz3 := blk_frozen B3.out 3; have pz4 := blk_frozen B3.out 4; have pz5 := blk_frozen B3.out 5; have pz6 := blk_frozen B3.out 6; have q0 : w_.cell? ⟨g4, 0, none⟩ = some (.int .i64 u) := (blk_cell B4.out 0).trans rfl; have q1 : w_.cell? ⟨g4, 1, none⟩ = some (.int .i64 v) := (blk_cell B4.out 1).trans rfl; have q2 : w_.cell? ⟨g4, 2, none⟩ = some (.int .i64 s) := (blk_cell B4.out 2).trans rfl; have qz0 := blk_frozen B4.out 0; have qz1 := blk_frozen B4.out 1; have qz2 := blk_frozen B4.out 2; have o0 : w_.cell? ⟨g11, 0, none⟩ = some (.int .i64 x) := (blk_cell B11.out 0).trans rfl; have o1 : w_.cell? ⟨g11, 1, none⟩ = some (.int .i64 y) := (blk_cell B11.out 1).trans rfl; have o2 : w_.cell? ⟨g11, 2, none⟩ = some (.int .i64 lo) := (blk_cell B11.out 2).trans rfl; have o3 : w_.cell? ⟨g11, 3, none⟩ = some (.int .i64 hi) := (blk_cell B11.out 3).trans rfl; have o4 : w_.cell? ⟨g11, 4, none⟩ = some (.int .i64 (wrap64 (tol + wrap64 m))) := (blk_cell B11.out 4).trans rfl; have o5 : w_.cell? ⟨g11, 5, none⟩ = some (.int .i64 mat) := (blk_cell B11.out 5).trans rfl; have o6 : w_.cell? ⟨g11, 6, none⟩ = some (.bool pin) := (blk_cell B11.out 6).trans rfl; have oz0 := blk_frozen B11.out 0; have oz1 := blk_frozen B11.out 1; have oz2 := blk_frozen B11.out 2; have oz3 := blk_frozen B11.out 3; have oz4 := blk_frozen B11.out 4; have oz5 := blk_frozen B11.out 5; have oz6 := blk_frozen B11.out 6)
    | (go_at_call 27; (with_reducible refine (bonus_Allowed.calls 9 x y lo hi tol mat pin s n 0 _ AL.out (by exact sig_below HS.out (by repeat (first | (with_reducible first | exact HB.out | apply below_alloc | apply pw_below_drewN | apply below_drew1) | exact HB.out)))).mono ?_); rintro e w_ ⟨rfl, hb⟩; have nB3_ := Aside0.mk (blk_below (by (with_reducible repeat (first | refine blk_drewN ?_ _ | refine blk_drew ?_ | refine blk_alloc ?_ _)); exact B3.out) hb); have nB4_ := Aside0.mk (blk_below (by (with_reducible repeat (first | refine blk_drewN ?_ _ | refine blk_drew ?_ | refine blk_alloc ?_ _)); exact B4.out) hb); have nB11_ := Aside0.mk (blk_below (by (with_reducible repeat (first | refine blk_drewN ?_ _ | refine blk_drew ?_ | refine blk_alloc ?_ _)); exact B11.out) hb); have nHB_ := Aside0.mk (below_step (by repeat (first | (with_reducible first | exact HB.out | apply below_alloc | apply pw_below_drewN | apply below_drew1) | exact HB.out)) hb); clear HB B3 B4 B11; have HB := nHB_; have B3 := nB3_; clear nB3_; have B4 := nB4_; clear nB4_; have B11 := nB11_; clear nB11_; clear nHB_; clear hb; clear p0 pz0 p1 pz1 p2 pz2 p3 pz3 p4 pz4 p5 pz5 p6 pz6; clear q0 qz0 q1 qz1 q2 qz2; clear o0 oz0 o1 oz1 o2 oz2 o3 oz3 o4 oz4 o5 oz5 o6 oz6; have p0 : w_.cell? ⟨g3, 0, none⟩ = some (.int .i64 x) := (blk_cell B3.out 0).trans rfl; have p1 : w_.cell? ⟨g3, 1, none⟩ = some (.int .i64 y) := (blk_cell B3.out 1).trans rfl; have p2 : w_.cell? ⟨g3, 2, none⟩ = some (.int .i64 lo) := (blk_cell B3.out 2).trans rfl; have p3 : w_.cell? ⟨g3, 3, none⟩ = some (.int .i64 hi) := (blk_cell B3.out 3).trans rfl; have p4 : w_.cell? ⟨g3, 4, none⟩ = some (.int .i64 tol) := (blk_cell B3.out 4).trans rfl; have p5 : w_.cell? ⟨g3, 5, none⟩ = some (.int .i64 mat) := (blk_cell B3.out 5).trans rfl; have p6 : w_.cell? ⟨g3, 6, none⟩ = some (.bool pin) := (blk_cell B3.out 6).trans rfl; have pz0 := blk_frozen B3.out 0; have pz1 := blk_frozen B3.out 1; have pz2 := blk_frozen B3.out 2; have pz3 := blk_frozen B3.out 3; have pz4 := blk_frozen B3.out 4; have pz5 := blk_frozen B3.out 5; have pz6 := blk_frozen B3.out 6; have q0 : w_.cell? ⟨g4, 0, none⟩ = some (.int .i64 u) := (blk_cell B4.out 0).trans rfl; have q1 : w_.cell? ⟨g4, 1, none⟩ = some (.int .i64 v) := (blk_cell B4.out 1).trans rfl; have q2 : w_.cell? ⟨g4, 2, none⟩ = some (.int .i64 s) := (blk_cell B4.out 2).trans rfl; have qz0 := blk_frozen B4.out 0; have qz1 := blk_frozen B4.out 1; have qz2 := blk_frozen B4.out 2; have o0 : w_.cell? ⟨g11, 0, none⟩ = some (.int .i64 x) := (blk_cell B11.out 0).trans rfl; have o1 : w_.cell? ⟨g11, 1, none⟩ = some (.int .i64 y) := (blk_cell B11.out 1).trans rfl; have o2 : w_.cell? ⟨g11, 2, none⟩ = some (.int .i64 lo) := (blk_cell B11.out 2).trans rfl; have o3 : w_.cell? ⟨g11, 3, none⟩ = some (.int .i64 hi) := (blk_cell B11.out 3).trans rfl; have o4 : w_.cell? ⟨g11, 4, none⟩ = some (.int .i64 (wrap64 (tol + wrap64 m))) := (blk_cell B11.out 4).trans rfl; have o5 : w_.cell? ⟨g11, 5, none⟩ = some (.int .i64 mat) := (blk_cell B11.out 5).trans rfl; have o6 : w_.cell? ⟨g11, 6, none⟩ = some (.bool pin) := (blk_cell B11.out 6).trans rfl; have oz0 := blk_frozen B11.out 0; have oz1 := blk_frozen B11.out 1; have oz2 := blk_frozen B11.out 2; have oz3 := blk_frozen B11.out 3; have oz4 := blk_frozen B11.out 4; have oz5 := blk_frozen B11.out 5; have oz6 := blk_frozen B11.out 6)
    | ((with_reducible refine gate_dst (N := 17) rfl ?_); refine box_event ?hg (N := 17) ?hd (cs := #[.int .i64 0, .int .i64 0, .int .i64 0, .int .i64 0, .int .i64 0, .int .i64 0, .bool false]) (t := 27) ?hr ?_; (case hd => rfl); (case hg => rfl); (case hr => first | (go_simp; done) | (go_simp; rfl)); intro g17 hg w_ hbox hb; have GEg17 := Aside0.mk (by rw [hg]; exact below_size (by repeat (first | (with_reducible first | exact HB.out | apply below_alloc | apply pw_below_drewN | apply below_drew1) | exact HB.out)) : w.heap.size ≤ g17); have nB3_ := Aside0.mk (blk_below (by (with_reducible repeat (first | refine blk_drewN ?_ _ | refine blk_drew ?_ | refine blk_alloc ?_ _)); exact B3.out) hb); have nB4_ := Aside0.mk (blk_below (by (with_reducible repeat (first | refine blk_drewN ?_ _ | refine blk_drew ?_ | refine blk_alloc ?_ _)); exact B4.out) hb); have nHB_ := Aside0.mk (below_step (by repeat (first | (with_reducible first | exact HB.out | apply below_alloc | apply pw_below_drewN | apply below_drew1) | exact HB.out)) hb); have B3o_ := B3; have B4o_ := B4; clear HB B3 B4; have HB := nHB_; have B3 := nB3_; clear nB3_; have B4 := nB4_; clear nB4_; clear nHB_; have B17 := Aside0.mk hbox; have N5 := Aside0.mk (by rw [hg]; exact Nat.ne_of_gt (blk_lt (by (with_reducible repeat (first | refine blk_drewN ?_ _ | refine blk_drew ?_ | refine blk_alloc ?_ _)); exact B3o_.out)) : g17 ≠ g3); have N6 := Aside0.mk (by rw [hg]; exact Nat.ne_of_gt (blk_lt (by (with_reducible repeat (first | refine blk_drewN ?_ _ | refine blk_drew ?_ | refine blk_alloc ?_ _)); exact B4o_.out)) : g17 ≠ g4); clear B3o_ B4o_; clear hg hbox hb; clear p0 pz0 p1 pz1 p2 pz2 p3 pz3 p4 pz4 p5 pz5 p6 pz6; clear q0 qz0 q1 qz1 q2 qz2; clear o0 oz0 o1 oz1 o2 oz2 o3 oz3 o4 oz4 o5 oz5 o6 oz6; have r0 : w_.cell? ⟨g17, 0, none⟩ = some (.int .i64 0) := (blk_cell B17.out 0).trans rfl; have r1 : w_.cell? ⟨g17, 1, none⟩ = some (.int .i64 0) := (blk_cell B17.out 1).trans rfl; have r2 : w_.cell? ⟨g17, 2, none⟩ = some (.int .i64 0) := (blk_cell B17.out 2).trans rfl; have r3 : w_.cell? ⟨g17, 3, none⟩ = some (.int .i64 0) := (blk_cell B17.out 3).trans rfl; have r4 : w_.cell? ⟨g17, 4, none⟩ = some (.int .i64 0) := (blk_cell B17.out 4).trans rfl; have r5 : w_.cell? ⟨g17, 5, none⟩ = some (.int .i64 0) := (blk_cell B17.out 5).trans rfl; have r6 : w_.cell? ⟨g17, 6, none⟩ = some (.bool false) := (blk_cell B17.out 6).trans rfl; have rz0 := blk_frozen B17.out 0; have rz1 := blk_frozen B17.out 1; have rz2 := blk_frozen B17.out 2; have rz3 := blk_frozen B17.out 3; have rz4 := blk_frozen B17.out 4; have rz5 := blk_frozen B17.out 5; have rz6 := blk_frozen B17.out 6))
  have sB17_ := B17.out
  have sB3_ := B3.out
  have sB4_ := B4.out
  have sHB_ := HB.out
  have sB17_ := blk_put sB17_ 0 (Value.int .i64 x) rfl
  have sB3_ := blk_far sB3_ (p := ⟨g17, 0, none⟩) N5.out.symm (Value.int .i64 x)
  have sB4_ := blk_far sB4_ (p := ⟨g17, 0, none⟩) N6.out.symm (Value.int .i64 x)
  have sHB_ := below_set sHB_ (j := 0) (v := Value.int .i64 x) GEg17.out
  have sB17_ := blk_put sB17_ 1 (Value.int .i64 y) rfl
  have sB3_ := blk_far sB3_ (p := ⟨g17, 1, none⟩) N5.out.symm (Value.int .i64 y)
  have sB4_ := blk_far sB4_ (p := ⟨g17, 1, none⟩) N6.out.symm (Value.int .i64 y)
  have sHB_ := below_set sHB_ (j := 1) (v := Value.int .i64 y) GEg17.out
  have sB17_ := blk_put sB17_ 2 (Value.int .i64 lo) rfl
  have sB3_ := blk_far sB3_ (p := ⟨g17, 2, none⟩) N5.out.symm (Value.int .i64 lo)
  have sB4_ := blk_far sB4_ (p := ⟨g17, 2, none⟩) N6.out.symm (Value.int .i64 lo)
  have sHB_ := below_set sHB_ (j := 2) (v := Value.int .i64 lo) GEg17.out
  have sB17_ := blk_put sB17_ 3 (Value.int .i64 hi) rfl
  have sB3_ := blk_far sB3_ (p := ⟨g17, 3, none⟩) N5.out.symm (Value.int .i64 hi)
  have sB4_ := blk_far sB4_ (p := ⟨g17, 3, none⟩) N6.out.symm (Value.int .i64 hi)
  have sHB_ := below_set sHB_ (j := 3) (v := Value.int .i64 hi) GEg17.out
  have sB17_ := blk_put sB17_ 4 (Value.int .i64 tol) rfl
  have sB3_ := blk_far sB3_ (p := ⟨g17, 4, none⟩) N5.out.symm (Value.int .i64 tol)
  have sB4_ := blk_far sB4_ (p := ⟨g17, 4, none⟩) N6.out.symm (Value.int .i64 tol)
  have sHB_ := below_set sHB_ (j := 4) (v := Value.int .i64 tol) GEg17.out
  have sB17_ := blk_put sB17_ 5 (Value.int .i64 mat) rfl
  have sB3_ := blk_far sB3_ (p := ⟨g17, 5, none⟩) N5.out.symm (Value.int .i64 mat)
  have sB4_ := blk_far sB4_ (p := ⟨g17, 5, none⟩) N6.out.symm (Value.int .i64 mat)
  have sHB_ := below_set sHB_ (j := 5) (v := Value.int .i64 mat) GEg17.out
  have sB17_ := blk_put sB17_ 6 (Value.bool pin) rfl
  have sB3_ := blk_far sB3_ (p := ⟨g17, 6, none⟩) N5.out.symm (Value.bool pin)
  have sB4_ := blk_far sB4_ (p := ⟨g17, 6, none⟩) N6.out.symm (Value.bool pin)
  have sHB_ := below_set sHB_ (j := 6) (v := Value.bool pin) GEg17.out
  generalize (((((((w_.setCell ⟨g17, 0, none⟩ (Value.int .i64 x)).setCell ⟨g17, 1, none⟩ (Value.int .i64 y)).setCell ⟨g17, 2, none⟩ (Value.int .i64 lo)).setCell ⟨g17, 3, none⟩ (Value.int .i64 hi)).setCell ⟨g17, 4, none⟩ (Value.int .i64 tol)).setCell ⟨g17, 5, none⟩ (Value.int .i64 mat)).setCell ⟨g17, 6, none⟩ (Value.bool pin)) = w9 at sB17_ sB3_ sB4_ sHB_ ⊢
  clear B17 B3 B4 HB
  have B17 := Aside0.mk sB17_
  have B3 := Aside0.mk sB3_
  have B4 := Aside0.mk sB4_
  have HB := Aside0.mk sHB_
  clear sB17_ sB3_ sB4_ sHB_
  clear r0 rz0 r1 rz1 r2 rz2 r3 rz3 r4 rz4 r5 rz5 r6 rz6
  have B17 : Aside0 (w9.heap[g17]? = some (.cells #[.int .i64 x, .int .i64 y, .int .i64 lo, .int .i64 hi, .int .i64 tol, .int .i64 mat, .bool pin] 27 (0, 0))) := ⟨B17.out⟩
  have r0 : w9.cell? ⟨g17, 0, none⟩ = some (.int .i64 x) := (blk_cell B17.out 0).trans rfl
  have r1 : w9.cell? ⟨g17, 1, none⟩ = some (.int .i64 y) := (blk_cell B17.out 1).trans rfl
  have r2 : w9.cell? ⟨g17, 2, none⟩ = some (.int .i64 lo) := (blk_cell B17.out 2).trans rfl
  have r3 : w9.cell? ⟨g17, 3, none⟩ = some (.int .i64 hi) := (blk_cell B17.out 3).trans rfl
  have r4 : w9.cell? ⟨g17, 4, none⟩ = some (.int .i64 tol) := (blk_cell B17.out 4).trans rfl
  have r5 : w9.cell? ⟨g17, 5, none⟩ = some (.int .i64 mat) := (blk_cell B17.out 5).trans rfl
  have r6 : w9.cell? ⟨g17, 6, none⟩ = some (.bool pin) := (blk_cell B17.out 6).trans rfl
  have rz0 := blk_frozen B17.out 0
  have rz1 := blk_frozen B17.out 1
  have rz2 := blk_frozen B17.out 2
  have rz3 := blk_frozen B17.out 3
  have rz4 := blk_frozen B17.out 4
  have rz5 := blk_frozen B17.out 5
  have rz6 := blk_frozen B17.out 6
  go_upto_region 21 with (fail)
  have sB17_ := B17.out
  have sB3_ := B3.out
  have sB4_ := B4.out
  have sHB_ := HB.out
  have sB17_ := blk_put sB17_ 4 (Value.int .i64 (wrap64 (tol + wrap64 (Int.tdiv (wrap64 (n + 1)) 2)))) rfl
  have sB3_ := blk_far sB3_ (p := ⟨g17, 4, none⟩) N5.out.symm (Value.int .i64 (wrap64 (tol + wrap64 (Int.tdiv (wrap64 (n + 1)) 2))))
  have sB4_ := blk_far sB4_ (p := ⟨g17, 4, none⟩) N6.out.symm (Value.int .i64 (wrap64 (tol + wrap64 (Int.tdiv (wrap64 (n + 1)) 2))))
  have sHB_ := below_set sHB_ (j := 4) (v := Value.int .i64 (wrap64 (tol + wrap64 (Int.tdiv (wrap64 (n + 1)) 2)))) GEg17.out
  generalize (w9.setCell ⟨g17, 4, none⟩ (Value.int .i64 (wrap64 (tol + wrap64 (Int.tdiv (wrap64 (n + 1)) 2))))) = wA at sB17_ sB3_ sB4_ sHB_ ⊢
  clear B17 B3 B4 HB
  have B17 := Aside0.mk sB17_
  have B3 := Aside0.mk sB3_
  have B4 := Aside0.mk sB4_
  have HB := Aside0.mk sHB_
  clear sB17_ sB3_ sB4_ sHB_
  clear r0 rz0 r1 rz1 r2 rz2 r3 rz3 r4 rz4 r5 rz5 r6 rz6
  have B17 : Aside0 (wA.heap[g17]? = some (.cells #[.int .i64 x, .int .i64 y, .int .i64 lo, .int .i64 hi, .int .i64 (wrap64 (tol + wrap64 (Int.tdiv (wrap64 (n + 1)) 2))), .int .i64 mat, .bool pin] 27 (0, 0))) := ⟨B17.out⟩
  have r0 : wA.cell? ⟨g17, 0, none⟩ = some (.int .i64 x) := (blk_cell B17.out 0).trans rfl
  have r1 : wA.cell? ⟨g17, 1, none⟩ = some (.int .i64 y) := (blk_cell B17.out 1).trans rfl
  have r2 : wA.cell? ⟨g17, 2, none⟩ = some (.int .i64 lo) := (blk_cell B17.out 2).trans rfl
  have r3 : wA.cell? ⟨g17, 3, none⟩ = some (.int .i64 hi) := (blk_cell B17.out 3).trans rfl
  have r4 : wA.cell? ⟨g17, 4, none⟩ = some (.int .i64 (wrap64 (tol + wrap64 (Int.tdiv (wrap64 (n + 1)) 2)))) := (blk_cell B17.out 4).trans rfl
  have r5 : wA.cell? ⟨g17, 5, none⟩ = some (.int .i64 mat) := (blk_cell B17.out 5).trans rfl
  have r6 : wA.cell? ⟨g17, 6, none⟩ = some (.bool pin) := (blk_cell B17.out 6).trans rfl
  have rz0 := blk_frozen B17.out 0
  have rz1 := blk_frozen B17.out 1
  have rz2 := blk_frozen B17.out 2
  have rz3 := blk_frozen B17.out 3
  have rz4 := blk_frozen B17.out 4
  have rz5 := blk_frozen B17.out 5
  have rz6 := blk_frozen B17.out 6
  have p0 : wA.cell? ⟨g3, 0, none⟩ = some (.int .i64 x) := (blk_cell B3.out 0).trans rfl
  have p1 : wA.cell? ⟨g3, 1, none⟩ = some (.int .i64 y) := (blk_cell B3.out 1).trans rfl
  have p2 : wA.cell? ⟨g3, 2, none⟩ = some (.int .i64 lo) := (blk_cell B3.out 2).trans rfl
  have p3 : wA.cell? ⟨g3, 3, none⟩ = some (.int .i64 hi) := (blk_cell B3.out 3).trans rfl
  have p4 : wA.cell? ⟨g3, 4, none⟩ = some (.int .i64 tol) := (blk_cell B3.out 4).trans rfl
  have p5 : wA.cell? ⟨g3, 5, none⟩ = some (.int .i64 mat) := (blk_cell B3.out 5).trans rfl
  have p6 : wA.cell? ⟨g3, 6, none⟩ = some (.bool pin) := (blk_cell B3.out 6).trans rfl
  have pz0 := blk_frozen B3.out 0
  have pz1 := blk_frozen B3.out 1
  have pz2 := blk_frozen B3.out 2
  have pz3 := blk_frozen B3.out 3
  have pz4 := blk_frozen B3.out 4
  have pz5 := blk_frozen B3.out 5
  have pz6 := blk_frozen B3.out 6
  have q0 : wA.cell? ⟨g4, 0, none⟩ = some (.int .i64 u) := (blk_cell B4.out 0).trans rfl
  have q1 : wA.cell? ⟨g4, 1, none⟩ = some (.int .i64 v) := (blk_cell B4.out 1).trans rfl
  have q2 : wA.cell? ⟨g4, 2, none⟩ = some (.int .i64 s) := (blk_cell B4.out 2).trans rfl
  have qz0 := blk_frozen B4.out 0
  have qz1 := blk_frozen B4.out 1
  have qz2 := blk_frozen B4.out 2
  go_wp2_with (first
    | (go_at_call 23; (with_reducible refine (metrolabref44_Check.calls 9 x y lo hi (wrap64 (tol + wrap64 (Int.tdiv (wrap64 (n + 1)) 2))) mat pin 0 _ AH.out).mono ?_); rintro e w_ ⟨rfl, hb⟩; have nB3_ := Aside0.mk (blk_below (by (with_reducible repeat (first | refine blk_drewN ?_ _ | refine blk_drew ?_ | refine blk_alloc ?_ _)); exact B3.out) hb); have nB4_ := Aside0.mk (blk_below (by (with_reducible repeat (first | refine blk_drewN ?_ _ | refine blk_drew ?_ | refine blk_alloc ?_ _)); exact B4.out) hb); have nB17_ := Aside0.mk (blk_below (by (with_reducible repeat (first | refine blk_drewN ?_ _ | refine blk_drew ?_ | refine blk_alloc ?_ _)); exact B17.out) hb); have nHB_ := Aside0.mk (below_step (by repeat (first | (with_reducible first | exact HB.out | apply below_alloc | apply pw_below_drewN | apply below_drew1) | exact HB.out)) hb); clear HB B3 B4 B17; have HB := nHB_; have B3 := nB3_; clear nB3_; have B4 := nB4_; clear nB4_; have B17 := nB17_; clear nB17_; clear nHB_; clear hb; clear p0 pz0 p1 pz1 p2 pz2 p3 pz3 p4 pz4 p5 pz5 p6 pz6; clear q0 qz0 q1 qz1 q2 qz2; clear r0 rz0 r1 rz1 r2 rz2 r3 rz3 r4 rz4 r5 rz5 r6 rz6; have p0 : w_.cell? ⟨g3, 0, none⟩ = some (.int .i64 x) := (blk_cell B3.out 0).trans rfl; have p1 : w_.cell? ⟨g3, 1, none⟩ = some (.int .i64 y) := (blk_cell B3.out 1).trans rfl; have p2 : w_.cell? ⟨g3, 2, none⟩ = some (.int .i64 lo) := (blk_cell B3.out 2).trans rfl; have p3 : w_.cell? ⟨g3, 3, none⟩ = some (.int .i64 hi) := (blk_cell B3.out 3).trans rfl; have p4 : w_.cell? ⟨g3, 4, none⟩ = some (.int .i64 tol) := (blk_cell B3.out 4).trans rfl; have p5 : w_.cell? ⟨g3, 5, none⟩ = some (.int .i64 mat) := (blk_cell B3.out 5).trans rfl; have p6 : w_.cell? ⟨g3, 6, none⟩ = some (.bool pin) := (blk_cell B3.out 6).trans rfl; have pz0 := blk_frozen B3.out 0; have pz1 := blk_frozen B3.out 1; have pz2 := blk_frozen B3.out 2; have pz3 := blk_frozen B3.out 3; have pz4 := blk_frozen B3.out 4; have pz5 := blk_frozen B3.out 5; have pz6 := blk_frozen B3.out 6; have q0 : w_.cell? ⟨g4, 0, none⟩ = some (.int .i64 u) := (blk_cell B4.out 0).trans rfl; have q1 : w_.cell? ⟨g4, 1, none⟩ = some (.int .i64 v) := (blk_cell B4.out 1).trans rfl; have q2 : w_.cell? ⟨g4, 2, none⟩ = some (.int .i64 s) := (blk_cell B4.out 2).trans rfl; have qz0 := blk_frozen B4.out 0; have qz1 := blk_frozen B4.out 1; have qz2 := blk_frozen B4.out 2; have r0 : w_.cell? ⟨g17, 0, none⟩ = some (.int .i64 x) := (blk_cell B17.out 0).trans rfl; have r1 : w_.cell? ⟨g17, 1, none⟩ = some (.int .i64 y) := (blk_cell B17.out 1).trans rfl; have r2 : w_.cell? ⟨g17, 2, none⟩ = some (.int .i64 lo) := (blk_cell B17.out 2).trans rfl; have r3 : w_.cell? ⟨g17, 3, none⟩ = some (.int .i64 hi) := (blk_cell B17.out 3).trans rfl; have r4 : w_.cell? ⟨g17, 4, none⟩ = some (.int .i64 (wrap64 (tol + wrap64 (Int.tdiv (wrap64 (n + 1)) 2)))) := (blk_cell B17.out 4).trans rfl; have r5 : w_.cell? ⟨g17, 5, none⟩ = some (.int .i64 mat) := (blk_cell B17.out 5).trans rfl; have r6 : w_.cell? ⟨g17, 6, none⟩ = some (.bool pin) := (blk_cell B17.out 6).trans rfl; have rz0 := blk_frozen B17.out 0; have rz1 := blk_frozen B17.out 1; have rz2 := blk_frozen B17.out 2; have rz3 := blk_frozen B17.out 3; have rz4 := blk_frozen B17.out 4; have rz5 := blk_frozen B17.out 5; have rz6 := blk_frozen B17.out 6)
    | (go_at_call 45; (with_reducible refine (bonus_Keeps.calls 9 x y lo hi (wrap64 (tol + wrap64 (Int.tdiv (wrap64 (n + 1)) 2))) mat pin u v s true 0 _ AJ.out (by exact sig_below HS.out (by repeat (first | (with_reducible first | exact HB.out | apply below_alloc | apply pw_below_drewN | apply below_drew1) | exact HB.out)))).mono ?_); rintro e w_ ⟨rfl, hb⟩; have nB3_ := Aside0.mk (blk_below (by (with_reducible repeat (first | refine blk_drewN ?_ _ | refine blk_drew ?_ | refine blk_alloc ?_ _)); exact B3.out) hb); have nB4_ := Aside0.mk (blk_below (by (with_reducible repeat (first | refine blk_drewN ?_ _ | refine blk_drew ?_ | refine blk_alloc ?_ _)); exact B4.out) hb); have nB17_ := Aside0.mk (blk_below (by (with_reducible repeat (first | refine blk_drewN ?_ _ | refine blk_drew ?_ | refine blk_alloc ?_ _)); exact B17.out) hb); have nHB_ := Aside0.mk (below_step (by repeat (first | (with_reducible first | exact HB.out | apply below_alloc | apply pw_below_drewN | apply below_drew1) | exact HB.out)) hb); clear HB B3 B4 B17; have HB := nHB_; have B3 := nB3_; clear nB3_; have B4 := nB4_; clear nB4_; have B17 := nB17_; clear nB17_; clear nHB_; clear hb; clear p0 pz0 p1 pz1 p2 pz2 p3 pz3 p4 pz4 p5 pz5 p6 pz6; clear q0 qz0 q1 qz1 q2 qz2; clear r0 rz0 r1 rz1 r2 rz2 r3 rz3 r4 rz4 r5 rz5 r6 rz6; have p0 : w_.cell? ⟨g3, 0, none⟩ = some (.int .i64 x) := (blk_cell B3.out 0).trans rfl; have p1 : w_.cell? ⟨g3, 1, none⟩ = some (.int .i64 y) := (blk_cell B3.out 1).trans rfl; have p2 : w_.cell? ⟨g3, 2, none⟩ = some (.int .i64 lo) := (blk_cell B3.out 2).trans rfl; have p3 : w_.cell? ⟨g3, 3, none⟩ = some (.int .i64 hi) := (blk_cell B3.out 3).trans rfl; have p4 : w_.cell? ⟨g3, 4, none⟩ = some (.int .i64 tol) := (blk_cell B3.out 4).trans rfl; have p5 : w_.cell? ⟨g3, 5, none⟩ = some (.int .i64 mat) := (blk_cell B3.out 5).trans rfl; have p6 : w_.cell? ⟨g3, 6, none⟩ = some (.bool pin) := (blk_cell B3.out 6).trans rfl; have pz0 := blk_frozen B3.out 0; have pz1 := blk_frozen B3.out 1; have pz2 := blk_frozen B3.out 2; have pz3 := blk_frozen B3.out 3; have pz4 := blk_frozen B3.out 4; have pz5 := blk_frozen B3.out 5; have pz6 := blk_frozen B3.out 6; have q0 : w_.cell? ⟨g4, 0, none⟩ = some (.int .i64 u) := (blk_cell B4.out 0).trans rfl; have q1 : w_.cell? ⟨g4, 1, none⟩ = some (.int .i64 v) := (blk_cell B4.out 1).trans rfl; have q2 : w_.cell? ⟨g4, 2, none⟩ = some (.int .i64 s) := (blk_cell B4.out 2).trans rfl; have qz0 := blk_frozen B4.out 0; have qz1 := blk_frozen B4.out 1; have qz2 := blk_frozen B4.out 2; have r0 : w_.cell? ⟨g17, 0, none⟩ = some (.int .i64 x) := (blk_cell B17.out 0).trans rfl; have r1 : w_.cell? ⟨g17, 1, none⟩ = some (.int .i64 y) := (blk_cell B17.out 1).trans rfl; have r2 : w_.cell? ⟨g17, 2, none⟩ = some (.int .i64 lo) := (blk_cell B17.out 2).trans rfl; have r3 : w_.cell? ⟨g17, 3, none⟩ = some (.int .i64 hi) := (blk_cell B17.out 3).trans rfl; have r4 : w_.cell? ⟨g17, 4, none⟩ = some (.int .i64 (wrap64 (tol + wrap64 (Int.tdiv (wrap64 (n + 1)) 2)))) := (blk_cell B17.out 4).trans rfl; have r5 : w_.cell? ⟨g17, 5, none⟩ = some (.int .i64 mat) := (blk_cell B17.out 5).trans rfl; have r6 : w_.cell? ⟨g17, 6, none⟩ = some (.bool pin) := (blk_cell B17.out 6).trans rfl; have rz0 := blk_frozen B17.out 0; have rz1 := blk_frozen B17.out 1; have rz2 := blk_frozen B17.out 2; have rz3 := blk_frozen B17.out 3; have rz4 := blk_frozen B17.out 4; have rz5 := blk_frozen B17.out 5; have rz6 := blk_frozen B17.out 6)
    | (go_at_call 24; (with_reducible refine (metrolablaw44_awake.calls true _ AA.out (by exact sig_below HS.out (by repeat (first | (with_reducible first | exact HB.out | apply below_alloc | apply pw_below_drewN | apply below_drew1) | exact HB.out)))).mono ?_); rintro e w_ ⟨rfl, hb⟩; have nB3_ := Aside0.mk (blk_below (by (with_reducible repeat (first | refine blk_drewN ?_ _ | refine blk_drew ?_ | refine blk_alloc ?_ _)); exact B3.out) hb); have nB4_ := Aside0.mk (blk_below (by (with_reducible repeat (first | refine blk_drewN ?_ _ | refine blk_drew ?_ | refine blk_alloc ?_ _)); exact B4.out) hb); have nHB_ := Aside0.mk (below_step (by repeat (first | (with_reducible first | exact HB.out | apply below_alloc | apply pw_below_drewN | apply below_drew1) | exact HB.out)) hb); clear HB B3 B4; have HB := nHB_; have B3 := nB3_; clear nB3_; have B4 := nB4_; clear nB4_; clear nHB_; clear hb))
  go_ret
  exact ⟨rfl, by repeat (first | (with_reducible first | exact HB.out | apply below_alloc | apply pw_below_drewN | apply below_drew1) | exact HB.out)⟩
end Go.Proofs.YtjemaonejkepcaaDoor.B
namespace Go.Proofs.YtjemaonejkepcaaDoor.B
open Go.RowKit Go.Proofs.YtjemaonejkepcaaDoorW.PrintWords Go.Proofs.YtjemaonejkepcaaDoorW.PrintLast
set_option linter.unusedVariables false
def metrolablaw44_BonusBoxes.f (k : Nat) (x y lo hi tol mat : Int) (pin : Bool) (u v s m : Int) : Option Bool := if 0 ≤ m ∧ m ≤ 255 then some true else none
theorem bx_half {tol e : Int} (ht : 0 ≤ tol ∧ tol ≤ 100000) (he : 0 ≤ e ∧ e ≤ 100000) : wrap64 (tol + wrap64 (Int.tdiv (wrap64 (tol + e + 1)) 2)) = tol + (tol + e + 1) / 2 := by
  rw [w64 (n := tol + e + 1) (by omega), Int.tdiv_eq_ediv_of_nonneg (by omega), w64 (n := (tol + e + 1) / 2) (by omega), w64 (by omega)]
theorem boxes_right (x y lo hi tol mat : Int) (pin : Bool) (u v s m : Int) (w : World) (hm : 0 ≤ m ∧ m ≤ 255) (ho : Okt x y lo hi tol mat pin) (hk : Okc u v s) (hS : SignsAt w) :
    Calls Tryd.prog 10 #[.agg #[.int .i64 x, .int .i64 y, .int .i64 lo, .int .i64 hi, .int .i64 tol, .int .i64 mat, .bool pin], .agg #[.int .i64 u, .int .i64 v, .int .i64 s], .int .u8 m] w fun e w' => e = .returned (.bool true) ∧ Below w.heap.size w w' := by
  have C0 : metrolabref44_Check.f 9 x y lo hi tol mat pin = some 0 := by rw [rcheck 9 (by omega), chk_ok.2 ho]
  have R0 : metrolabref44_Ring.f u v s = some 0 := by rw [rring, ringc_ok.2 hk]
  have K0 := keeps_ok 9 (by omega) ho hk
  have B0 := boxf_ok 9 (by omega) ho hk
  have W0 := rcheck 9 (by omega) x y lo hi (wrap64 (tol + wrap64 m)) mat pin
  have ht : 0 ≤ tol ∧ tol ≤ 100000 := ⟨ho.2.2.2.2.2.1, ho.2.2.2.2.2.2.1⟩
  have hw : wrap64 (tol + wrap64 m) = tol + m := by rw [w64 (n := m) (by omega), w64 (by omega)]
  have X0 : chk x y lo hi (wrap64 (tol + wrap64 m)) mat pin = 0 → bonus_Keeps.f 9 x y lo hi (wrap64 (tol + wrap64 m)) mat pin u v s = some (goodB x y lo hi (tol + m) mat pin u v s, 0) ∧ bonus_KeepsBox.f 9 x y lo hi (wrap64 (tol + wrap64 m)) mat pin u v s = some (boxB x y lo hi (tol + m) mat pin u v s, 0) := fun h => by
    have h1 := keeps_ok 9 (by omega) (chk_ok.1 h) hk
    have h2 := boxf_ok 9 (by omega) (chk_ok.1 h) hk
    rw [hw] at h1 h2 ⊢
    exact ⟨h1, h2⟩
  have hab : goodB x y lo hi tol mat pin u v s = true → boxB x y lo hi tol mat pin u v s = true := good_box ht.1
  have hax : goodB x y lo hi tol mat pin u v s = true → goodB x y lo hi (tol + m) mat pin u v s = true := good_more ht.1 hm.1
  have hby : boxB x y lo hi tol mat pin u v s = true → boxB x y lo hi (tol + m) mat pin u v s = true := box_more hm.1
  have hlaw : boxB x y lo hi tol mat pin u v s = true → ∃ n, bonus_Allowed.f 9 x y lo hi tol mat pin s = some (n, 0) ∧ (chk x y lo hi (wrap64 (tol + wrap64 (Int.tdiv (wrap64 (n + 1)) 2))) mat pin = 0 → bonus_Keeps.f 9 x y lo hi (wrap64 (tol + wrap64 (Int.tdiv (wrap64 (n + 1)) 2))) mat pin u v s = some (true, 0)) := fun hb => by
    have hs := (boxB_iff.1 hb).1
    have he := ext_pos (mat := mat) (pin := pin) hs
    have he2 := ext_range ho hs
    have hhi : hi ≤ 100000 := ho.2.2.2.2.1
    have hlo : 1 ≤ lo := ho.2.2.1
    refine ⟨_, allowed_ok 9 (by omega) ho hs, fun h => ?_⟩
    have h1 := keeps_ok 9 (by omega) (chk_ok.1 h) hk
    rw [h1, bx_half ht (by omega), box_half (by omega) hb]
  generalize goodB x y lo hi tol mat pin u v s = a at *
  generalize boxB x y lo hi tol mat pin u v s = b at *
  generalize goodB x y lo hi (tol + m) mat pin u v s = xb at *
  generalize boxB x y lo hi (tol + m) mat pin u v s = yb at *
  cases b with
  | false =>
    cases a with
    | true => exact absurd (hab rfl) (by decide)
    | false =>
      by_cases z : chk x y lo hi (wrap64 (tol + wrap64 m)) mat pin = 0
      · rw [z] at W0
        exact boxes_ff0 x y lo hi tol mat pin u v s m w hS xb yb C0 R0 K0 B0 W0 (X0 z).1 (X0 z).2
      · exact boxes_ff1 x y lo hi tol mat pin u v s m w hS _ z C0 R0 K0 B0 W0
  | true =>
    obtain ⟨n, L0, J0⟩ := hlaw rfl
    obtain rfl := hby rfl
    have H0 := rcheck 9 (by omega) x y lo hi (wrap64 (tol + wrap64 (Int.tdiv (wrap64 (n + 1)) 2))) mat pin
    by_cases z : chk x y lo hi (wrap64 (tol + wrap64 m)) mat pin = 0
    · rw [z] at W0
      by_cases z2 : chk x y lo hi (wrap64 (tol + wrap64 (Int.tdiv (wrap64 (n + 1)) 2))) mat pin = 0
      · rw [z2] at H0
        cases a with
        | true =>
          obtain rfl := hax rfl
          exact boxes_tt00 x y lo hi tol mat pin u v s m w hS C0 R0 K0 B0 W0 (X0 z).1 (X0 z).2 n L0 H0 (J0 z2)
        | false => exact boxes_ft00 x y lo hi tol mat pin u v s m w hS xb C0 R0 K0 B0 W0 (X0 z).1 (X0 z).2 n L0 H0 (J0 z2)
      · cases a with
        | true =>
          obtain rfl := hax rfl
          exact boxes_tt01 x y lo hi tol mat pin u v s m w hS C0 R0 K0 B0 W0 (X0 z).1 (X0 z).2 n L0 _ z2 H0
        | false => exact boxes_ft01 x y lo hi tol mat pin u v s m w hS xb C0 R0 K0 B0 W0 (X0 z).1 (X0 z).2 n L0 _ z2 H0
    · by_cases z2 : chk x y lo hi (wrap64 (tol + wrap64 (Int.tdiv (wrap64 (n + 1)) 2))) mat pin = 0
      · rw [z2] at H0
        cases a with
        | true => exact boxes_tt10 x y lo hi tol mat pin u v s m w hS _ z C0 R0 K0 B0 W0 n L0 H0 (J0 z2)
        | false => exact boxes_ft10 x y lo hi tol mat pin u v s m w hS _ z C0 R0 K0 B0 W0 n L0 H0 (J0 z2)
      · cases a with
        | true => exact boxes_tt11 x y lo hi tol mat pin u v s m w hS _ z C0 R0 K0 B0 W0 n L0 _ z2 H0
        | false => exact boxes_ft11 x y lo hi tol mat pin u v s m w hS _ z C0 R0 K0 B0 W0 n L0 _ z2 H0
theorem metrolablaw44_BonusBoxes.calls (k : Nat) (x y lo hi tol mat : Int) (pin : Bool) (u v s m : Int) (r : Bool) (w : World) (h : metrolablaw44_BonusBoxes.f k x y lo hi tol mat pin u v s m = some r) (hS : SignsAt w) :
    Calls Tryd.prog 10 #[.agg #[.int .i64 x, .int .i64 y, .int .i64 lo, .int .i64 hi, .int .i64 tol, .int .i64 mat, .bool pin], .agg #[.int .i64 u, .int .i64 v, .int .i64 s], .int .u8 m] w fun e w' => e = .returned (.bool r) ∧ Below w.heap.size w w' := by
  unfold metrolablaw44_BonusBoxes.f at h
  by_cases hm : 0 ≤ m ∧ m ≤ 255
  · rw [if_pos hm] at h
    obtain rfl := Option.some.inj h
    have C0 := rcheck 9 (by omega) x y lo hi tol mat pin
    by_cases hz : chk x y lo hi tol mat pin = 0
    · by_cases hc : ringc u v s = 0
      · exact boxes_right x y lo hi tol mat pin u v s m w hm (chk_ok.1 hz) (ringc_ok.1 hc) hS
      · rw [hz] at C0
        exact boxes_ring x y lo hi tol mat pin u v s m w hS _ hc C0 (rring u v s)
    · exact boxes_bad x y lo hi tol mat pin u v s m w hS _ hz C0
  · rw [if_neg hm] at h; cases h
theorem boxes_pure (x y lo hi tol mat : Int) (pin : Bool) (u v s m : Int) (wf : (Lit.int .u8 m).wf = true) : ∃ k, metrolablaw44_BonusBoxes.f k x y lo hi tol mat pin u v s m = some true := by
  have hb := Go.bounds_u8 wf
  exact ⟨0, by unfold metrolablaw44_BonusBoxes.f; rw [if_pos (by omega)]⟩
end Go.Proofs.YtjemaonejkepcaaDoor.B
