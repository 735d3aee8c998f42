/- Texts of the law GaugeLasts, laid together by a program of this session; what is not reached is cut. In it: words that the kit's print.sh printed, contracts of Go functions printed over the kit's printer, our own laws. Not trusted: Lean checks them. -/
import Derived.Test.YtjemaonejkepcaaDoorZLGaugeLasts1
import Derived.Test.YtjemaonejkepcaaDoorRows
import Derived.WalkKit
import Derived.WalkSpells
import Derived.WalkLawsBesides
import Derived.RegionTactic
import Derived.BigQuiet
import Derived.Deep.QuietTactic
import Derived.Test.YtjemaonejkepcaaDoorProg
import Derived.Below
import Derived.Deep.Draws
import Derived.Deep.AppendLies
import Derived.Maps.AppendAt
import Derived.OwnWalk
import Derived.Laws.BytesArg
import Derived.Laws.MakeOwn
import Derived.Laws.OwnMore
import Derived.Deep.OwnRows
import Derived.Tactics
import Derived.Lib.ConvBytes
import Derived.Laws.Slices
import Derived.KernelRfl
import Derived.RowKit3
import Derived.Deep.LoopGhost
import Derived.WideLaws
import Derived.Deep.DeepCutAuto
import Derived.Deep.CutBlock
import Derived.Deep.RegionHeld3
import Derived.Laws.Rows
import Derived.Lib.AppendStr
import Derived.ArgAppend
import Derived.Laws.IdiomCopy
import Derived.OrdersHeld
import Derived.Laws.BitsLemmas
import Derived.RowKit
namespace Go.Proofs.YtjemaonejkepcaaDoor
open Go.RowKit Go.Proofs.YtjemaonejkepcaaDoorW.PrintWords
def SignsAt (w : World) : Prop :=
  w.cell? ⟨0, 0, none⟩ = some (.int .i64 (-1)) ∧ w.cell? ⟨0, 1, none⟩ = some (.int .i64 (-1)) ∧ w.cell? ⟨0, 2, none⟩ = some (.int .i64 1) ∧
  w.cell? ⟨0, 3, none⟩ = some (.int .i64 1) ∧ w.cell? ⟨0, 4, none⟩ = some (.int .i64 1) ∧ w.cell? ⟨0, 5, none⟩ = some (.int .i64 (-1))
theorem sig_below {w w' : World} (h : SignsAt w) (hb : Below w.heap.size w w') : SignsAt w' :=
  ⟨pw_cell_below hb h.1, pw_cell_below hb h.2.1, pw_cell_below hb h.2.2.1, pw_cell_below hb h.2.2.2.1, pw_cell_below hb h.2.2.2.2.1, pw_cell_below hb h.2.2.2.2.2⟩
def sgn (m : Int) (pin : Bool) : Int := if pin = true then (if m = 2 then -1 else 1) else (if m = 2 then 1 else -1)
set_option maxHeartbeats 4000000 in
set_option maxRecDepth 100000 in
theorem of_pin (x y lo hi tol m : Int) (w : World) (hm : m = 0 ∨ m = 1 ∨ m = 2) (hS : SignsAt w) :
    Calls Tryd.prog 67 #[.agg #[.int .i64 x, .int .i64 y, .int .i64 lo, .int .i64 hi, .int .i64 tol, .int .i64 m, .bool true]] w fun e w' => e = .returned (.agg #[.int .i64 x, .int .i64 y, .int .i64 lo, .int .i64 hi, .int .i64 tol, .int .i64 m, .bool true, .int .i64 (sgn m true)]) ∧ Below w.heap.size w w' := by
  have hz : 0 < w.heap.size := World.block_lt_of_cell? w _ hS.1
  obtain ⟨h0, h1, h2, h3, h4, h5⟩ := hS
  have hu27 := Tryd.underlying27
  have hu113 := Tryd.underlying113
  rcases hm with rfl | rfl | rfl
  · clear h0 h1 h2 h4 h5
    have hc1 : ∀ o : Obj, (w.alloc o).cell? ⟨0, 3, none⟩ = w.cell? ⟨0, 3, none⟩ := fun o => World.cell?_alloc_lt w o _ hz
    have hc2 : ∀ o o' : Obj, ((w.alloc o).alloc o').cell? ⟨0, 3, none⟩ = w.cell? ⟨0, 3, none⟩ := fun o o' => (World.cell?_alloc_lt _ o' _ (by simp)).trans (hc1 o)
    go_enter Tryd.func67, Tryd.ntmps67
    go_wp2
    go_region
    go_wp2
    exact bodyPost_ret (v := .agg #[.int .i64 x, .int .i64 y, .int .i64 lo, .int .i64 hi, .int .i64 tol, .int .i64 0, .bool true, .int .i64 1]) (by simp [results, Tryd.results67, go_sem]) rfl ⟨by simp [sgn], below_drew (below_alloc (below_alloc (Below.refl _ _) _) _)⟩
  · clear h0 h1 h2 h3 h5
    have hc1 : ∀ o : Obj, (w.alloc o).cell? ⟨0, 4, none⟩ = w.cell? ⟨0, 4, none⟩ := fun o => World.cell?_alloc_lt w o _ hz
    have hc2 : ∀ o o' : Obj, ((w.alloc o).alloc o').cell? ⟨0, 4, none⟩ = w.cell? ⟨0, 4, none⟩ := fun o o' => (World.cell?_alloc_lt _ o' _ (by simp)).trans (hc1 o)
    go_enter Tryd.func67, Tryd.ntmps67
    go_wp2
    go_region
    go_wp2
    exact bodyPost_ret (v := .agg #[.int .i64 x, .int .i64 y, .int .i64 lo, .int .i64 hi, .int .i64 tol, .int .i64 1, .bool true, .int .i64 1]) (by simp [results, Tryd.results67, go_sem]) rfl ⟨by simp [sgn], below_drew (below_alloc (below_alloc (Below.refl _ _) _) _)⟩
  · clear h0 h1 h2 h3 h4
    have hc1 : ∀ o : Obj, (w.alloc o).cell? ⟨0, 5, none⟩ = w.cell? ⟨0, 5, none⟩ := fun o => World.cell?_alloc_lt w o _ hz
    have hc2 : ∀ o o' : Obj, ((w.alloc o).alloc o').cell? ⟨0, 5, none⟩ = w.cell? ⟨0, 5, none⟩ := fun o o' => (World.cell?_alloc_lt _ o' _ (by simp)).trans (hc1 o)
    go_enter Tryd.func67, Tryd.ntmps67
    go_wp2
    go_region
    go_wp2
    exact bodyPost_ret (v := .agg #[.int .i64 x, .int .i64 y, .int .i64 lo, .int .i64 hi, .int .i64 tol, .int .i64 2, .bool true, .int .i64 (-1)]) (by simp [results, Tryd.results67, go_sem]) rfl ⟨by simp [sgn], below_drew (below_alloc (below_alloc (Below.refl _ _) _) _)⟩
set_option maxHeartbeats 4000000 in
set_option maxRecDepth 100000 in
theorem of_hole (x y lo hi tol m : Int) (w : World) (hm : m = 0 ∨ m = 1 ∨ m = 2) (hS : SignsAt w) :
    Calls Tryd.prog 67 #[.agg #[.int .i64 x, .int .i64 y, .int .i64 lo, .int .i64 hi, .int .i64 tol, .int .i64 m, .bool false]] w fun e w' => e = .returned (.agg #[.int .i64 x, .int .i64 y, .int .i64 lo, .int .i64 hi, .int .i64 tol, .int .i64 m, .bool false, .int .i64 (sgn m false)]) ∧ Below w.heap.size w w' := by
  have hz : 0 < w.heap.size := World.block_lt_of_cell? w _ hS.1
  obtain ⟨h0, h1, h2, h3, h4, h5⟩ := hS
  have hu27 := Tryd.underlying27
  have hu113 := Tryd.underlying113
  rcases hm with rfl | rfl | rfl
  · clear h1 h2 h3 h4 h5
    have hc1 : ∀ o : Obj, (w.alloc o).cell? ⟨0, 0, none⟩ = w.cell? ⟨0, 0, none⟩ := fun o => World.cell?_alloc_lt w o _ hz
    have hc2 : ∀ o o' : Obj, ((w.alloc o).alloc o').cell? ⟨0, 0, none⟩ = w.cell? ⟨0, 0, none⟩ := fun o o' => (World.cell?_alloc_lt _ o' _ (by simp)).trans (hc1 o)
    go_enter Tryd.func67, Tryd.ntmps67
    go_wp2
    go_region
    go_wp2
    exact bodyPost_ret (v := .agg #[.int .i64 x, .int .i64 y, .int .i64 lo, .int .i64 hi, .int .i64 tol, .int .i64 0, .bool false, .int .i64 (-1)]) (by simp [results, Tryd.results67, go_sem]) rfl ⟨by simp [sgn], below_drew (below_alloc (below_alloc (Below.refl _ _) _) _)⟩
  · clear h0 h2 h3 h4 h5
    have hc1 : ∀ o : Obj, (w.alloc o).cell? ⟨0, 1, none⟩ = w.cell? ⟨0, 1, none⟩ := fun o => World.cell?_alloc_lt w o _ hz
    have hc2 : ∀ o o' : Obj, ((w.alloc o).alloc o').cell? ⟨0, 1, none⟩ = w.cell? ⟨0, 1, none⟩ := fun o o' => (World.cell?_alloc_lt _ o' _ (by simp)).trans (hc1 o)
    go_enter Tryd.func67, Tryd.ntmps67
    go_wp2
    go_region
    go_wp2
    exact bodyPost_ret (v := .agg #[.int .i64 x, .int .i64 y, .int .i64 lo, .int .i64 hi, .int .i64 tol, .int .i64 1, .bool false, .int .i64 (-1)]) (by simp [results, Tryd.results67, go_sem]) rfl ⟨by simp [sgn], below_drew (below_alloc (below_alloc (Below.refl _ _) _) _)⟩
  · clear h0 h1 h3 h4 h5
    have hc1 : ∀ o : Obj, (w.alloc o).cell? ⟨0, 2, none⟩ = w.cell? ⟨0, 2, none⟩ := fun o => World.cell?_alloc_lt w o _ hz
    have hc2 : ∀ o o' : Obj, ((w.alloc o).alloc o').cell? ⟨0, 2, none⟩ = w.cell? ⟨0, 2, none⟩ := fun o o' => (World.cell?_alloc_lt _ o' _ (by simp)).trans (hc1 o)
    go_enter Tryd.func67, Tryd.ntmps67
    go_wp2
    go_region
    go_wp2
    exact bodyPost_ret (v := .agg #[.int .i64 x, .int .i64 y, .int .i64 lo, .int .i64 hi, .int .i64 tol, .int .i64 2, .bool false, .int .i64 1]) (by simp [results, Tryd.results67, go_sem]) rfl ⟨by simp [sgn], below_drew (below_alloc (below_alloc (Below.refl _ _) _) _)⟩
theorem of_any (x y lo hi tol m : Int) (b : Bool) (w : World) (h0 : 0 ≤ m) (h2 : m ≤ 2) (hS : SignsAt w) :
    Calls Tryd.prog 67 #[.agg #[.int .i64 x, .int .i64 y, .int .i64 lo, .int .i64 hi, .int .i64 tol, .int .i64 m, .bool b]] w fun e w' => e = .returned (.agg #[.int .i64 x, .int .i64 y, .int .i64 lo, .int .i64 hi, .int .i64 tol, .int .i64 m, .bool b, .int .i64 (sgn m b)]) ∧ Below w.heap.size w w' := by
  have hm : m = 0 ∨ m = 1 ∨ m = 2 := by omega
  cases b
  · exact of_hole x y lo hi tol m w hm hS
  · exact of_pin x y lo hi tol m w hm hS
end Go.Proofs.YtjemaonejkepcaaDoor
namespace Go.Proofs.YtjemaonejkepcaaDoor.B
open Go.RowKit Go.Proofs.YtjemaonejkepcaaDoorW.PrintWords Go.Proofs.YtjemaonejkepcaaDoorW.PrintLast Go.Proofs.YtjemaonejkepcaaDoorW.PrintMore
attribute [local go_sem] max2_int min2_int max_two min_two max_three min_three max_four min_four   -- for this text's walks alone
set_option linter.unusedVariables false
set_option linter.unusedSimpArgs false
def errW : Option Int → Value
  | none => .nilIface
  | some c => .iface 0 (.int .i64 c)
theorem errW_none : errW none = .nilIface := rfl
theorem errW_some (c : Int) : errW (some c) = .iface 0 (.int .i64 c) := rfl
theorem info3 : (Tryd.prog.info? 3).map (fun i => (i.zero, i.size, i.bytes)) = some (some (.int .i64 0), 1, 8) := by kernel_rfl
structure S23 where
  f0 : Int
  f1 : Int
def z23 : S23 := ⟨(0 : Int), (0 : Int)⟩
def k23 : Kd S23 := Kd.iso (Kd.pair (Kd.int .i64) (Kd.int .i64)) (fun x : S23 => (x.f0, x.f1))
theorem k23_open {w : World} {x : S23} {cs : List Value} (h : k23.K w x cs) : cs = [.int .i64 x.f0, .int .i64 x.f1] := by
  obtain ⟨_, _, rfl, rfl, rfl⟩ := h
  exact rfl
theorem k23_openM {w : World} {base : Nat} {ok : Nat → Prop} {x : S23} {cs : List Value} (h : k23.M w base ok x cs) : cs = [.int .i64 x.f0, .int .i64 x.f1] := by
  obtain ⟨_, _, rfl, rfl, rfl⟩ := h
  exact rfl
theorem k23_mk (w : World) (x : S23)  : k23.K w x [.int .i64 x.f0, .int .i64 x.f1] := ⟨[.int .i64 x.f0], [.int .i64 x.f1], rfl, rfl, rfl⟩
theorem k23_mkM (w : World) (base : Nat) (ok : Nat → Prop) (x : S23)  : k23.M w base ok x [.int .i64 x.f0, .int .i64 x.f1] := ⟨[.int .i64 x.f0], [.int .i64 x.f1], rfl, rfl, rfl⟩
structure S25 where
  f0 : Int
  f1 : Int
def z25 : S25 := ⟨(0 : Int), (0 : Int)⟩
def k25 : Kd S25 := Kd.iso (Kd.pair (Kd.int .i64) (Kd.int .i64)) (fun x : S25 => (x.f0, x.f1))
theorem k25_open {w : World} {x : S25} {cs : List Value} (h : k25.K w x cs) : cs = [.int .i64 x.f0, .int .i64 x.f1] := by
  obtain ⟨_, _, rfl, rfl, rfl⟩ := h
  exact rfl
theorem k25_mk (w : World) (x : S25)  : k25.K w x [.int .i64 x.f0, .int .i64 x.f1] := ⟨[.int .i64 x.f0], [.int .i64 x.f1], rfl, rfl, rfl⟩
theorem k25_mkM (w : World) (base : Nat) (ok : Nat → Prop) (x : S25)  : k25.M w base ok x [.int .i64 x.f0, .int .i64 x.f1] := ⟨[.int .i64 x.f0], [.int .i64 x.f1], rfl, rfl, rfl⟩
def rd_T25 (xs : List S25) (i : Int) : S25 := xs.getD i.toNat z25
theorem at_T25 {w : World} {A : Option Addr} {n : Nat} {xs : List S25} (h : Kd.C k25 w A n xs) (i : Int) (h0 : 0 ≤ i) (h1 : i < n) : ∃ ad , A = some ad ∧ w.cell? (ad.add (i.toNat * 2)) = some (.int .i64 (rd_T25 xs i).f0) ∧ w.cell? ⟨(ad.add (i.toNat * 2)).block, (ad.add (i.toNat * 2)).off + 1, none⟩ = some (.int .i64 (rd_T25 xs i).f1) := by
  obtain ⟨ad, c, e, _, hK, hc0⟩ := Kd.C_get h z25 i h0 h1
  have hc : ∀ j u, c[j]? = some u → w.cell? (ad.add (i.toNat * 2 + j)) = some u := hc0
  obtain rfl := k25_open hK
  exact ⟨ad, e, hc 0 _ rfl, by rw [← add_field _ _ 1 (by omega)]; exact hc 1 _ rfl⟩
structure S27 where
  f0 : S23
  f1 : S25
  f2 : Int
  f3 : Int
  f4 : Bool
def z27 : S27 := ⟨z23, z25, (0 : Int), (0 : Int), false⟩
def k27 : Kd S27 := Kd.iso (Kd.pair k23 (Kd.pair k25 (Kd.pair (Kd.int .i64) (Kd.pair (Kd.int .i64) Kd.bool)))) (fun x : S27 => (x.f0, x.f1, x.f2, x.f3, x.f4))
theorem k27_open {w : World} {x : S27} {cs : List Value} (h : k27.K w x cs) : cs = [.int .i64 x.f0.f0, .int .i64 x.f0.f1, .int .i64 x.f1.f0, .int .i64 x.f1.f1, .int .i64 x.f2, .int .i64 x.f3, .bool x.f4] := by
  obtain ⟨_, _, rfl, s0, ⟨_, _, rfl, s2, ⟨_, _, rfl, rfl, ⟨_, _, rfl, rfl, rfl⟩⟩⟩⟩ := h
  obtain rfl := k23_open s0
  obtain rfl := k25_open s2
  exact rfl
theorem k27_mk (w : World) (x : S27)  : k27.K w x [.int .i64 x.f0.f0, .int .i64 x.f0.f1, .int .i64 x.f1.f0, .int .i64 x.f1.f1, .int .i64 x.f2, .int .i64 x.f3, .bool x.f4] := ⟨[.int .i64 x.f0.f0, .int .i64 x.f0.f1], [.int .i64 x.f1.f0, .int .i64 x.f1.f1, .int .i64 x.f2, .int .i64 x.f3, .bool x.f4], rfl, (k23_mk w x.f0 ), ⟨[.int .i64 x.f1.f0, .int .i64 x.f1.f1], [.int .i64 x.f2, .int .i64 x.f3, .bool x.f4], rfl, (k25_mk w x.f1 ), ⟨[.int .i64 x.f2], [.int .i64 x.f3, .bool x.f4], rfl, rfl, ⟨[.int .i64 x.f3], [.bool x.f4], rfl, rfl, rfl⟩⟩⟩⟩
theorem k27_mkM (w : World) (base : Nat) (ok : Nat → Prop) (x : S27)  : k27.M w base ok x [.int .i64 x.f0.f0, .int .i64 x.f0.f1, .int .i64 x.f1.f0, .int .i64 x.f1.f1, .int .i64 x.f2, .int .i64 x.f3, .bool x.f4] := ⟨[.int .i64 x.f0.f0, .int .i64 x.f0.f1], [.int .i64 x.f1.f0, .int .i64 x.f1.f1, .int .i64 x.f2, .int .i64 x.f3, .bool x.f4], rfl, (k23_mkM w base ok x.f0 ), ⟨[.int .i64 x.f1.f0, .int .i64 x.f1.f1], [.int .i64 x.f2, .int .i64 x.f3, .bool x.f4], rfl, (k25_mkM w base ok x.f1 ), ⟨[.int .i64 x.f2], [.int .i64 x.f3, .bool x.f4], rfl, rfl, ⟨[.int .i64 x.f3], [.bool x.f4], rfl, rfl, rfl⟩⟩⟩⟩
def rd_T27 (xs : List S27) (i : Int) : S27 := xs.getD i.toNat z27
theorem at_T27 {w : World} {A : Option Addr} {n : Nat} {xs : List S27} (h : Kd.C k27 w A n xs) (i : Int) (h0 : 0 ≤ i) (h1 : i < n) : ∃ ad , A = some ad ∧ w.cell? (ad.add (i.toNat * 7)) = some (.int .i64 (rd_T27 xs i).f0.f0) ∧ w.cell? ⟨(ad.add (i.toNat * 7)).block, (ad.add (i.toNat * 7)).off + 1, none⟩ = some (.int .i64 (rd_T27 xs i).f0.f1) ∧ w.cell? ⟨(ad.add (i.toNat * 7)).block, (ad.add (i.toNat * 7)).off + 2, none⟩ = some (.int .i64 (rd_T27 xs i).f1.f0) ∧ w.cell? ⟨(ad.add (i.toNat * 7)).block, (ad.add (i.toNat * 7)).off + 3, none⟩ = some (.int .i64 (rd_T27 xs i).f1.f1) ∧ w.cell? ⟨(ad.add (i.toNat * 7)).block, (ad.add (i.toNat * 7)).off + 4, none⟩ = some (.int .i64 (rd_T27 xs i).f2) ∧ w.cell? ⟨(ad.add (i.toNat * 7)).block, (ad.add (i.toNat * 7)).off + 5, none⟩ = some (.int .i64 (rd_T27 xs i).f3) ∧ w.cell? ⟨(ad.add (i.toNat * 7)).block, (ad.add (i.toNat * 7)).off + 6, none⟩ = some (.bool (rd_T27 xs i).f4) := by
  obtain ⟨ad, c, e, _, hK, hc0⟩ := Kd.C_get h z27 i h0 h1
  have hc : ∀ j u, c[j]? = some u → w.cell? (ad.add (i.toNat * 7 + j)) = some u := hc0
  obtain rfl := k27_open hK
  exact ⟨ad, e, hc 0 _ rfl, by rw [← add_field _ _ 1 (by omega)]; exact hc 1 _ rfl, by rw [← add_field _ _ 2 (by omega)]; exact hc 2 _ rfl, by rw [← add_field _ _ 3 (by omega)]; exact hc 3 _ rfl, by rw [← add_field _ _ 4 (by omega)]; exact hc 4 _ rfl, by rw [← add_field _ _ 5 (by omega)]; exact hc 5 _ rfl, by rw [← add_field _ _ 6 (by omega)]; exact hc 6 _ rfl⟩
end Go.Proofs.YtjemaonejkepcaaDoor.B
namespace Go.Proofs.YtjemaonejkepcaaDoor.B
open Go.RowKit Go.Proofs.YtjemaonejkepcaaDoorW.PrintWords Go.Proofs.YtjemaonejkepcaaDoorW.PrintLast Go.Proofs.YtjemaonejkepcaaDoorW.PrintMore
attribute [local go_sem] max2_int min2_int max_two min_two max_three min_three max_four min_four   -- for this text's walks alone
set_option linter.unusedVariables false
set_option linter.unusedSimpArgs false
def bonus_in.f (a0 : Int) : Option (Bool) := if a0 ≥ (-100000) then (some (decide (a0 ≤ 100000))) else (some false)
set_option maxHeartbeats 8000000 in
set_option maxRecDepth 100000 in
theorem bonus_in.calls (a0 : Int) (r : Bool) (w : World) (h : bonus_in.f a0 = some r) :
    Calls Tryd.prog 71 #[.int .i64 a0] w fun e w' => e = .returned (.bool r) ∧ Drawn0 w w' := by
  have H : (if a0 ≥ (-100000) then (some (decide (a0 ≤ 100000))) else (some false)) = some r := h
  clear h
  by_cases c2 : a0 ≥ (-100000)
  · rw [if_pos c2] at H
    have c2b0 : decide ((-100000) ≤ a0) = true := decide_eq_true c2
    clear c2
    obtain rfl := Option.some.inj H
    go_enter Tryd.func71, Tryd.ntmps71
    go_wp2
    go_ret
    exact ⟨by first | rfl | (simp; done) | (simp [*]; done), by repeat (first | exact Drawn0.refl _ | apply Drawn0.step)⟩
  · rw [if_neg c2] at H
    have c2b0 : decide ((-100000) ≤ a0) = false := decide_eq_false c2
    clear c2
    obtain rfl := Option.some.inj H
    go_enter Tryd.func71, Tryd.ntmps71
    go_wp2
    go_ret
    exact ⟨by first | rfl | (simp; done) | (simp [*]; done), by repeat (first | exact Drawn0.refl _ | apply Drawn0.step)⟩
def bonus_size.f (a0 : Int) : Option (Bool) := if a0 ≥ 1 then (some (decide (a0 ≤ 100000))) else (some false)
set_option maxHeartbeats 8000000 in
set_option maxRecDepth 100000 in
theorem bonus_size.calls (a0 : Int) (r : Bool) (w : World) (h : bonus_size.f a0 = some r) :
    Calls Tryd.prog 72 #[.int .i64 a0] w fun e w' => e = .returned (.bool r) ∧ Drawn0 w w' := by
  have H : (if a0 ≥ 1 then (some (decide (a0 ≤ 100000))) else (some false)) = some r := h
  clear h
  by_cases c2 : a0 ≥ 1
  · rw [if_pos c2] at H
    have c2b0 : decide (1 ≤ a0) = true := decide_eq_true c2
    clear c2
    obtain rfl := Option.some.inj H
    go_enter Tryd.func72, Tryd.ntmps72
    go_wp2
    go_ret
    exact ⟨by first | rfl | (simp; done) | (simp [*]; done), by repeat (first | exact Drawn0.refl _ | apply Drawn0.step)⟩
  · rw [if_neg c2] at H
    have c2b0 : decide (1 ≤ a0) = false := decide_eq_false c2
    clear c2
    obtain rfl := Option.some.inj H
    go_enter Tryd.func72, Tryd.ntmps72
    go_wp2
    go_ret
    exact ⟨by first | rfl | (simp; done) | (simp [*]; done), by repeat (first | exact Drawn0.refl _ | apply Drawn0.step)⟩
mutual
def bonus_Check.j0 : Nat → Bool → Int → Int → Int → Int → Int → Int → Bool → Option (Int)
  | 0, _, _, _, _, _, _, _, _ => none
  | k + 1, x3, x102000, x102001, x102002, x102003, x102004, x102005, x102006 => if x3 = true then (some 2) else (if x102002 > x102003 then (some 9) else (if x102004 < 0 then (bonus_Check.j1 k true x102000 x102001 x102002 x102003 x102004 x102005 x102006) else (if x102004 > 100000 then (bonus_Check.j1 k true x102000 x102001 x102002 x102003 x102004 x102005 x102006) else (if x102006 = true then (bonus_Check.j1 k false x102000 x102001 x102002 x102003 x102004 x102005 x102006) else (bonus_Check.j1 k (decide (x102004 ≥ x102002)) x102000 x102001 x102002 x102003 x102004 x102005 x102006)))))
def bonus_Check.j1 : Nat → Bool → Int → Int → Int → Int → Int → Int → Bool → Option (Int)
  | 0, _, _, _, _, _, _, _, _ => none
  | k + 1, x38, x102000, x102001, x102002, x102003, x102004, x102005, x102006 => if x38 = true then (some 2) else (if x102005 < 0 then (some 1) else (if x102005 ≥ 3 then (some 1) else (some 0)))
end
def bonus_Check.f (k : Nat) (a0_0 : Int) (a0_1 : Int) (a0_2 : Int) (a0_3 : Int) (a0_4 : Int) (a0_5 : Int) (a0_6 : Bool) : Option (Int) := (bonus_in.f a0_0).bind fun t102 => (if t102 = true then ((bonus_in.f a0_1).bind fun t103 => (if t103 = true then ((bonus_size.f a0_2).bind fun t104 => (if t104 = true then ((bonus_size.f a0_3).bind fun t105 => (bonus_Check.j0 k (!t105) a0_0 a0_1 a0_2 a0_3 a0_4 a0_5 a0_6)) else (bonus_Check.j0 k true a0_0 a0_1 a0_2 a0_3 a0_4 a0_5 a0_6))) else (bonus_Check.j0 k true a0_0 a0_1 a0_2 a0_3 a0_4 a0_5 a0_6))) else (bonus_Check.j0 k true a0_0 a0_1 a0_2 a0_3 a0_4 a0_5 a0_6))
theorem bonus_Check.mono_l : ∀ k, (∀ y0 y1 y2 y3 y4 y5 y6 y7, LeO (bonus_Check.j0 k y0 y1 y2 y3 y4 y5 y6 y7) (bonus_Check.j0 (k + 1) y0 y1 y2 y3 y4 y5 y6 y7)) ∧ (∀ y0 y1 y2 y3 y4 y5 y6 y7, LeO (bonus_Check.j1 k y0 y1 y2 y3 y4 y5 y6 y7) (bonus_Check.j1 (k + 1) y0 y1 y2 y3 y4 y5 y6 y7))
  | 0 => ⟨fun _ _ _ _ _ _ _ _ r h => by simp [bonus_Check.j0] at h, fun _ _ _ _ _ _ _ _ r h => by simp [bonus_Check.j1] at h⟩
  | k + 1 => by
    obtain ⟨ih0, ih1⟩ := bonus_Check.mono_l k
    refine ⟨?_, ?_⟩
    · intro y0 y1 y2 y3 y4 y5 y6 y7
      unfold bonus_Check.j0
      repeat' first
      | (with_reducible exact ih0 _ _ _ _ _ _ _ _)
      | (with_reducible exact ih1 _ _ _ _ _ _ _ _)
      | (with_reducible exact LeO.refl _)
      | (with_reducible exact LeO.none _)
      | (with_reducible refine LeO.ite ?_ ?_)
      | (with_reducible refine LeO.bind ?_ (fun _ => ?_))
      | exact ih0 _ _ _ _ _ _ _ _
      | exact ih1 _ _ _ _ _ _ _ _
      | exact LeO.none _
      | refine LeO.ite ?_ ?_
      | refine LeO.bind ?_ (fun _ => ?_)
    · intro y0 y1 y2 y3 y4 y5 y6 y7
      unfold bonus_Check.j1
      repeat' first
      | (with_reducible exact ih0 _ _ _ _ _ _ _ _)
      | (with_reducible exact ih1 _ _ _ _ _ _ _ _)
      | (with_reducible exact LeO.refl _)
      | (with_reducible exact LeO.none _)
      | (with_reducible refine LeO.ite ?_ ?_)
      | (with_reducible refine LeO.bind ?_ (fun _ => ?_))
      | exact ih0 _ _ _ _ _ _ _ _
      | exact ih1 _ _ _ _ _ _ _ _
      | exact LeO.none _
      | refine LeO.ite ?_ ?_
      | refine LeO.bind ?_ (fun _ => ?_)
theorem bonus_Check.mono : ∀ a0 a1 a2 a3 a4 a5 a6 k, LeO (bonus_Check.f k a0 a1 a2 a3 a4 a5 a6) (bonus_Check.f (k + 1) a0 a1 a2 a3 a4 a5 a6) := by
  intro a0 a1 a2 a3 a4 a5 a6 k
  obtain ⟨ih0, ih1⟩ := bonus_Check.mono_l k
  unfold bonus_Check.f
  repeat' first
      | (with_reducible exact ih0 _ _ _ _ _ _ _ _)
      | (with_reducible exact ih1 _ _ _ _ _ _ _ _)
      | (with_reducible exact LeO.refl _)
      | (with_reducible exact LeO.none _)
      | (with_reducible refine LeO.ite ?_ ?_)
      | (with_reducible refine LeO.bind ?_ (fun _ => ?_))
      | exact ih0 _ _ _ _ _ _ _ _
      | exact ih1 _ _ _ _ _ _ _ _
      | exact LeO.none _
      | refine LeO.ite ?_ ?_
      | refine LeO.bind ?_ (fun _ => ?_)
set_option maxHeartbeats 8000000 in
set_option maxRecDepth 100000 in
theorem bonus_Check.calls (k : Nat) (a0_0 : Int) (a0_1 : Int) (a0_2 : Int) (a0_3 : Int) (a0_4 : Int) (a0_5 : Int) (a0_6 : Bool) (r : Int) (w : World) (h : bonus_Check.f k a0_0 a0_1 a0_2 a0_3 a0_4 a0_5 a0_6 = some r) :
    Calls Tryd.prog 22 #[.agg #[.int .i64 a0_0, .int .i64 a0_1, .int .i64 a0_2, .int .i64 a0_3, .int .i64 a0_4, .int .i64 a0_5, .bool a0_6]] w fun e w' => e = .returned (.int .i64 r) ∧ Below w.heap.size w w' := by
  have hu27 := Tryd.underlying27
  have HB := Aside0.mk (Below.refl w.heap.size w)
  have H : ((bonus_in.f a0_0).bind fun t102 => (if t102 = true then ((bonus_in.f a0_1).bind fun t103 => (if t103 = true then ((bonus_size.f a0_2).bind fun t104 => (if t104 = true then ((bonus_size.f a0_3).bind fun t105 => (bonus_Check.j0 k (!t105) a0_0 a0_1 a0_2 a0_3 a0_4 a0_5 a0_6)) else (bonus_Check.j0 k true a0_0 a0_1 a0_2 a0_3 a0_4 a0_5 a0_6))) else (bonus_Check.j0 k true a0_0 a0_1 a0_2 a0_3 a0_4 a0_5 a0_6))) else (bonus_Check.j0 k true a0_0 a0_1 a0_2 a0_3 a0_4 a0_5 a0_6))) = some r := h
  clear h
  have HC2 := Aside0.mk H
  clear H
  go_enter Tryd.func22, Tryd.ntmps22
  go_upto_region 1 with (first | ((with_reducible refine gate_dst (N := 1) rfl ?_); refine box_event ?hg (N := 1) ?hd (cs := #[.int .i64 a0_0, .int .i64 a0_1, .int .i64 a0_2, .int .i64 a0_3, .int .i64 a0_4, .int .i64 a0_5, .bool a0_6]) (t := 27) ?hr ?_; (case hd => rfl); (case hg => rfl); (case hr => first | (go_simp; done) | (go_simp; rfl)); intro gb101 hg w3 hbox hb; have n0_ := Aside0.mk (below_step (by repeat (first | (with_reducible first | exact HB.out | apply below_alloc | apply pw_below_drewN | apply below_drew1) | exact HB.out)) hb); have n1_ := Aside0.mk (hbox); have n2_ := Aside0.mk ((by rw [hg]; exact (below_size (by repeat (first | (with_reducible first | exact HB.out | apply below_alloc | apply pw_below_drewN | apply below_drew1) | exact HB.out))) : w.heap.size ≤ gb101)); have n3_ := Aside0.mk ((by rw [hg]; exact (below_size (by repeat (first | (with_reducible first | exact HB.out | apply below_alloc | apply pw_below_drewN | apply below_drew1) | exact HB.out))) : w.heap.size ≤ gb101)); clear HB; have HB := n0_; have BK101 := n1_; have GW101 := n2_; have GE101 := n3_; clear n0_ n1_ n2_ n3_; clear hb hbox hg))
  (try simp only [Act.put, List.setIfInBounds_toArray, List.set_cons_zero, List.set_cons_succ])
  go_cut [3] (fun v3 wc => ∃ (kq : Nat) (x3_1 : Bool), v3 = .bool x3_1 ∧ Aside0 (bonus_Check.j0 kq x3_1 a0_0 a0_1 a0_2 a0_3 a0_4 a0_5 a0_6 = some r) ∧ Aside0 (kq ≤ k) ∧ Aside0 (wc.heap[gb101]? = some (.cells #[.int .i64 a0_0, .int .i64 a0_1, .int .i64 a0_2, .int .i64 a0_3, .int .i64 a0_4, .int .i64 a0_5, .bool a0_6] 27 (0, 0))) ∧ Aside0 (Below w.heap.size w wc))
  case first =>
    have H := HC2.out
    clear HC2
    replace H := Option.bind_eq_some_iff.mp H
    obtain ⟨t102, A40, H⟩ := H
    replace H : (if t102 = true then ((bonus_in.f a0_1).bind fun t103 => (if t103 = true then ((bonus_size.f a0_2).bind fun t104 => (if t104 = true then ((bonus_size.f a0_3).bind fun t105 => (bonus_Check.j0 k (!t105) a0_0 a0_1 a0_2 a0_3 a0_4 a0_5 a0_6)) else (bonus_Check.j0 k true a0_0 a0_1 a0_2 a0_3 a0_4 a0_5 a0_6))) else (bonus_Check.j0 k true a0_0 a0_1 a0_2 a0_3 a0_4 a0_5 a0_6))) else (bonus_Check.j0 k true a0_0 a0_1 a0_2 a0_3 a0_4 a0_5 a0_6)) = some r := H
    have A4 := Aside0.mk A40
    clear A40
    by_cases c5 : t102 = true
    · subst c5
      have H1 : ((bonus_in.f a0_1).bind fun t103 => (if t103 = true then ((bonus_size.f a0_2).bind fun t104 => (if t104 = true then ((bonus_size.f a0_3).bind fun t105 => (bonus_Check.j0 k (!t105) a0_0 a0_1 a0_2 a0_3 a0_4 a0_5 a0_6)) else (bonus_Check.j0 k true a0_0 a0_1 a0_2 a0_3 a0_4 a0_5 a0_6))) else (bonus_Check.j0 k true a0_0 a0_1 a0_2 a0_3 a0_4 a0_5 a0_6))) = some r := by rw [if_pos rfl] at H; exact H
      clear H
      have H := H1
      clear H1
      replace H := Option.bind_eq_some_iff.mp H
      obtain ⟨t103, A60, H⟩ := H
      replace H : (if t103 = true then ((bonus_size.f a0_2).bind fun t104 => (if t104 = true then ((bonus_size.f a0_3).bind fun t105 => (bonus_Check.j0 k (!t105) a0_0 a0_1 a0_2 a0_3 a0_4 a0_5 a0_6)) else (bonus_Check.j0 k true a0_0 a0_1 a0_2 a0_3 a0_4 a0_5 a0_6))) else (bonus_Check.j0 k true a0_0 a0_1 a0_2 a0_3 a0_4 a0_5 a0_6)) = some r := H
      have A6 := Aside0.mk A60
      clear A60
      by_cases c7 : t103 = true
      · subst c7
        have H1 : ((bonus_size.f a0_2).bind fun t104 => (if t104 = true then ((bonus_size.f a0_3).bind fun t105 => (bonus_Check.j0 k (!t105) a0_0 a0_1 a0_2 a0_3 a0_4 a0_5 a0_6)) else (bonus_Check.j0 k true a0_0 a0_1 a0_2 a0_3 a0_4 a0_5 a0_6))) = some r := by rw [if_pos rfl] at H; exact H
        clear H
        have H := H1
        clear H1
        replace H := Option.bind_eq_some_iff.mp H
        obtain ⟨t104, A80, H⟩ := H
        replace H : (if t104 = true then ((bonus_size.f a0_3).bind fun t105 => (bonus_Check.j0 k (!t105) a0_0 a0_1 a0_2 a0_3 a0_4 a0_5 a0_6)) else (bonus_Check.j0 k true a0_0 a0_1 a0_2 a0_3 a0_4 a0_5 a0_6)) = some r := H
        have A8 := Aside0.mk A80
        clear A80
        by_cases c9 : t104 = true
        · subst c9
          have H1 : ((bonus_size.f a0_3).bind fun t105 => (bonus_Check.j0 k (!t105) a0_0 a0_1 a0_2 a0_3 a0_4 a0_5 a0_6)) = some r := by rw [if_pos rfl] at H; exact H
          clear H
          have H := H1
          clear H1
          replace H := Option.bind_eq_some_iff.mp H
          obtain ⟨t105, A100, H⟩ := H
          replace H : (bonus_Check.j0 k (!t105) a0_0 a0_1 a0_2 a0_3 a0_4 a0_5 a0_6) = some r := H
          have A10 := Aside0.mk A100
          clear A100
          have H' := Aside0.mk H
          clear H
          have hcz11_0 : w3.cell? ⟨gb101, 0, none⟩ = some (.int .i64 a0_0) := (blk_cell BK101.out 0).trans rfl
          have hcz11_1 : w3.cell? ⟨gb101, 1, none⟩ = some (.int .i64 a0_1) := (blk_cell BK101.out 1).trans rfl
          have hcz11_2 : w3.cell? ⟨gb101, 2, none⟩ = some (.int .i64 a0_2) := (blk_cell BK101.out 2).trans rfl
          have hcz11_3 : w3.cell? ⟨gb101, 3, none⟩ = some (.int .i64 a0_3) := (blk_cell BK101.out 3).trans rfl
          have hcz11_4 : w3.cell? ⟨gb101, 4, none⟩ = some (.int .i64 a0_4) := (blk_cell BK101.out 4).trans rfl
          have hcz11_5 : w3.cell? ⟨gb101, 5, none⟩ = some (.int .i64 a0_5) := (blk_cell BK101.out 5).trans rfl
          have hcz11_6 : w3.cell? ⟨gb101, 6, none⟩ = some (.bool a0_6) := (blk_cell BK101.out 6).trans rfl
          have hfz11_0 := blk_frozen BK101.out 0
          have hfz11_1 := blk_frozen BK101.out 1
          have hfz11_2 := blk_frozen BK101.out 2
          have hfz11_3 := blk_frozen BK101.out 3
          have hfz11_4 := blk_frozen BK101.out 4
          have hfz11_5 := blk_frozen BK101.out 5
          have hfz11_6 := blk_frozen BK101.out 6
          go_wp2_with (first | ((with_reducible refine gate_callee (f := 71) rfl ?_); refine goesL_ (some 7) rfl rfl Tryd.func71 (by kernel_rfl) rfl #[.int .i64 a0_0] rfl (by (try simp only [List.map_toArray, List.map_cons, List.map_nil]); first | done | rfl | (simp only [List.length_drop, List.length_take]; rfl)) ?_; (with_reducible refine (bonus_in.calls a0_0 true _ A4.out).mono ?_); rintro e w' ⟨rfl, ⟨nd, rfl⟩⟩; refine ⟨_, rfl, ?_⟩) | (go_at_call 71; (with_reducible refine (bonus_in.calls a0_1 true _ A6.out).mono ?_); rintro e w' ⟨rfl, ⟨nd, rfl⟩⟩) | (go_at_call 72; (with_reducible refine (bonus_size.calls a0_2 true _ A8.out).mono ?_); rintro e w' ⟨rfl, ⟨nd, rfl⟩⟩) | (go_at_call 72; (with_reducible refine (bonus_size.calls a0_3 t105 _ A10.out).mono ?_); rintro e w' ⟨rfl, ⟨nd, rfl⟩⟩))
          go_meet
          case rel => exact ⟨_, (!t105), (by first | rfl | (simp; done) | (simp [*]; done)), H', ⟨by first | omega | exact Nat.le_refl _⟩, ⟨by (with_reducible repeat (first | refine blk_drewN ?_ _ | refine blk_drew ?_ | refine blk_alloc ?_ _)); exact BK101.out⟩, ⟨by repeat (first | (with_reducible first | exact HB.out | apply below_alloc | apply pw_below_drewN | apply below_drew1 | refine below_set ?_ GE101.out) | exact HB.out)⟩⟩
        · replace c9 := Bool.eq_false_iff.mpr c9
          subst c9
          have H1 : (bonus_Check.j0 k true a0_0 a0_1 a0_2 a0_3 a0_4 a0_5 a0_6) = some r := by rw [if_neg (show ¬ (false = true) by decide)] at H; exact H
          clear H
          have H := H1
          clear H1
          have H' := Aside0.mk H
          clear H
          have hcz12_0 : w3.cell? ⟨gb101, 0, none⟩ = some (.int .i64 a0_0) := (blk_cell BK101.out 0).trans rfl
          have hcz12_1 : w3.cell? ⟨gb101, 1, none⟩ = some (.int .i64 a0_1) := (blk_cell BK101.out 1).trans rfl
          have hcz12_2 : w3.cell? ⟨gb101, 2, none⟩ = some (.int .i64 a0_2) := (blk_cell BK101.out 2).trans rfl
          have hcz12_3 : w3.cell? ⟨gb101, 3, none⟩ = some (.int .i64 a0_3) := (blk_cell BK101.out 3).trans rfl
          have hcz12_4 : w3.cell? ⟨gb101, 4, none⟩ = some (.int .i64 a0_4) := (blk_cell BK101.out 4).trans rfl
          have hcz12_5 : w3.cell? ⟨gb101, 5, none⟩ = some (.int .i64 a0_5) := (blk_cell BK101.out 5).trans rfl
          have hcz12_6 : w3.cell? ⟨gb101, 6, none⟩ = some (.bool a0_6) := (blk_cell BK101.out 6).trans rfl
          have hfz12_0 := blk_frozen BK101.out 0
          have hfz12_1 := blk_frozen BK101.out 1
          have hfz12_2 := blk_frozen BK101.out 2
          have hfz12_3 := blk_frozen BK101.out 3
          have hfz12_4 := blk_frozen BK101.out 4
          have hfz12_5 := blk_frozen BK101.out 5
          have hfz12_6 := blk_frozen BK101.out 6
          go_wp2_with (first | ((with_reducible refine gate_callee (f := 71) rfl ?_); refine goesL_ (some 7) rfl rfl Tryd.func71 (by kernel_rfl) rfl #[.int .i64 a0_0] rfl (by (try simp only [List.map_toArray, List.map_cons, List.map_nil]); first | done | rfl | (simp only [List.length_drop, List.length_take]; rfl)) ?_; (with_reducible refine (bonus_in.calls a0_0 true _ A4.out).mono ?_); rintro e w' ⟨rfl, ⟨nd, rfl⟩⟩; refine ⟨_, rfl, ?_⟩) | (go_at_call 71; (with_reducible refine (bonus_in.calls a0_1 true _ A6.out).mono ?_); rintro e w' ⟨rfl, ⟨nd, rfl⟩⟩) | (go_at_call 72; (with_reducible refine (bonus_size.calls a0_2 false _ A8.out).mono ?_); rintro e w' ⟨rfl, ⟨nd, rfl⟩⟩))
          go_meet
          case rel => exact ⟨_, (true), (by first | rfl | (simp; done) | (simp [*]; done)), H', ⟨by first | omega | exact Nat.le_refl _⟩, ⟨by (with_reducible repeat (first | refine blk_drewN ?_ _ | refine blk_drew ?_ | refine blk_alloc ?_ _)); exact BK101.out⟩, ⟨by repeat (first | (with_reducible first | exact HB.out | apply below_alloc | apply pw_below_drewN | apply below_drew1 | refine below_set ?_ GE101.out) | exact HB.out)⟩⟩
      · replace c7 := Bool.eq_false_iff.mpr c7
        subst c7
        have H1 : (bonus_Check.j0 k true a0_0 a0_1 a0_2 a0_3 a0_4 a0_5 a0_6) = some r := by rw [if_neg (show ¬ (false = true) by decide)] at H; exact H
        clear H
        have H := H1
        clear H1
        have H' := Aside0.mk H
        clear H
        have hcz13_0 : w3.cell? ⟨gb101, 0, none⟩ = some (.int .i64 a0_0) := (blk_cell BK101.out 0).trans rfl
        have hcz13_1 : w3.cell? ⟨gb101, 1, none⟩ = some (.int .i64 a0_1) := (blk_cell BK101.out 1).trans rfl
        have hcz13_2 : w3.cell? ⟨gb101, 2, none⟩ = some (.int .i64 a0_2) := (blk_cell BK101.out 2).trans rfl
        have hcz13_3 : w3.cell? ⟨gb101, 3, none⟩ = some (.int .i64 a0_3) := (blk_cell BK101.out 3).trans rfl
        have hcz13_4 : w3.cell? ⟨gb101, 4, none⟩ = some (.int .i64 a0_4) := (blk_cell BK101.out 4).trans rfl
        have hcz13_5 : w3.cell? ⟨gb101, 5, none⟩ = some (.int .i64 a0_5) := (blk_cell BK101.out 5).trans rfl
        have hcz13_6 : w3.cell? ⟨gb101, 6, none⟩ = some (.bool a0_6) := (blk_cell BK101.out 6).trans rfl
        have hfz13_0 := blk_frozen BK101.out 0
        have hfz13_1 := blk_frozen BK101.out 1
        have hfz13_2 := blk_frozen BK101.out 2
        have hfz13_3 := blk_frozen BK101.out 3
        have hfz13_4 := blk_frozen BK101.out 4
        have hfz13_5 := blk_frozen BK101.out 5
        have hfz13_6 := blk_frozen BK101.out 6
        go_wp2_with (first | ((with_reducible refine gate_callee (f := 71) rfl ?_); refine goesL_ (some 7) rfl rfl Tryd.func71 (by kernel_rfl) rfl #[.int .i64 a0_0] rfl (by (try simp only [List.map_toArray, List.map_cons, List.map_nil]); first | done | rfl | (simp only [List.length_drop, List.length_take]; rfl)) ?_; (with_reducible refine (bonus_in.calls a0_0 true _ A4.out).mono ?_); rintro e w' ⟨rfl, ⟨nd, rfl⟩⟩; refine ⟨_, rfl, ?_⟩) | (go_at_call 71; (with_reducible refine (bonus_in.calls a0_1 false _ A6.out).mono ?_); rintro e w' ⟨rfl, ⟨nd, rfl⟩⟩))
        go_meet
        case rel => exact ⟨_, (true), (by first | rfl | (simp; done) | (simp [*]; done)), H', ⟨by first | omega | exact Nat.le_refl _⟩, ⟨by (with_reducible repeat (first | refine blk_drewN ?_ _ | refine blk_drew ?_ | refine blk_alloc ?_ _)); exact BK101.out⟩, ⟨by repeat (first | (with_reducible first | exact HB.out | apply below_alloc | apply pw_below_drewN | apply below_drew1 | refine below_set ?_ GE101.out) | exact HB.out)⟩⟩
    · replace c5 := Bool.eq_false_iff.mpr c5
      subst c5
      have H1 : (bonus_Check.j0 k true a0_0 a0_1 a0_2 a0_3 a0_4 a0_5 a0_6) = some r := by rw [if_neg (show ¬ (false = true) by decide)] at H; exact H
      clear H
      have H := H1
      clear H1
      have H' := Aside0.mk H
      clear H
      have hcz14_0 : w3.cell? ⟨gb101, 0, none⟩ = some (.int .i64 a0_0) := (blk_cell BK101.out 0).trans rfl
      have hcz14_1 : w3.cell? ⟨gb101, 1, none⟩ = some (.int .i64 a0_1) := (blk_cell BK101.out 1).trans rfl
      have hcz14_2 : w3.cell? ⟨gb101, 2, none⟩ = some (.int .i64 a0_2) := (blk_cell BK101.out 2).trans rfl
      have hcz14_3 : w3.cell? ⟨gb101, 3, none⟩ = some (.int .i64 a0_3) := (blk_cell BK101.out 3).trans rfl
      have hcz14_4 : w3.cell? ⟨gb101, 4, none⟩ = some (.int .i64 a0_4) := (blk_cell BK101.out 4).trans rfl
      have hcz14_5 : w3.cell? ⟨gb101, 5, none⟩ = some (.int .i64 a0_5) := (blk_cell BK101.out 5).trans rfl
      have hcz14_6 : w3.cell? ⟨gb101, 6, none⟩ = some (.bool a0_6) := (blk_cell BK101.out 6).trans rfl
      have hfz14_0 := blk_frozen BK101.out 0
      have hfz14_1 := blk_frozen BK101.out 1
      have hfz14_2 := blk_frozen BK101.out 2
      have hfz14_3 := blk_frozen BK101.out 3
      have hfz14_4 := blk_frozen BK101.out 4
      have hfz14_5 := blk_frozen BK101.out 5
      have hfz14_6 := blk_frozen BK101.out 6
      go_wp2_with (first | ((with_reducible refine gate_callee (f := 71) rfl ?_); refine goesL_ (some 7) rfl rfl Tryd.func71 (by kernel_rfl) rfl #[.int .i64 a0_0] rfl (by (try simp only [List.map_toArray, List.map_cons, List.map_nil]); first | done | rfl | (simp only [List.length_drop, List.length_take]; rfl)) ?_; (with_reducible refine (bonus_in.calls a0_0 false _ A4.out).mono ?_); rintro e w' ⟨rfl, ⟨nd, rfl⟩⟩; refine ⟨_, rfl, ?_⟩))
      go_meet
      case rel => exact ⟨_, (true), (by first | rfl | (simp; done) | (simp [*]; done)), H', ⟨by first | omega | exact Nat.le_refl _⟩, ⟨by (with_reducible repeat (first | refine blk_drewN ?_ _ | refine blk_drew ?_ | refine blk_alloc ?_ _)); exact BK101.out⟩, ⟨by repeat (first | (with_reducible first | exact HB.out | apply below_alloc | apply pw_below_drewN | apply below_drew1 | refine below_set ?_ GE101.out) | exact HB.out)⟩⟩
  case rest =>
    clear HC2
    try clear c2
    try clear p2
    try clear c5
    try clear c7
    try clear c9
    try clear hcz11_0
    try clear hcz11_1
    try clear hcz11_2
    try clear hcz11_3
    try clear hcz11_4
    try clear hcz11_5
    try clear hcz11_6
    try clear hcz12_0
    try clear hcz12_1
    try clear hcz12_2
    try clear hcz12_3
    try clear hcz12_4
    try clear hcz12_5
    try clear hcz12_6
    try clear hcz13_0
    try clear hcz13_1
    try clear hcz13_2
    try clear hcz13_3
    try clear hcz13_4
    try clear hcz13_5
    try clear hcz13_6
    try clear hcz14_0
    try clear hcz14_1
    try clear hcz14_2
    try clear hcz14_3
    try clear hcz14_4
    try clear hcz14_5
    try clear hcz14_6
    try clear hfz11_0
    try clear hfz11_1
    try clear hfz11_2
    try clear hfz11_3
    try clear hfz11_4
    try clear hfz11_5
    try clear hfz11_6
    try clear hfz12_0
    try clear hfz12_1
    try clear hfz12_2
    try clear hfz12_3
    try clear hfz12_4
    try clear hfz12_5
    try clear hfz12_6
    try clear hfz13_0
    try clear hfz13_1
    try clear hfz13_2
    try clear hfz13_3
    try clear hfz13_4
    try clear hfz13_5
    try clear hfz13_6
    try clear hfz14_0
    try clear hfz14_1
    try clear hfz14_2
    try clear hfz14_3
    try clear hfz14_4
    try clear hfz14_5
    try clear hfz14_6
    obtain ⟨kq, x3_1, rfl, HA, HJ1, BK101, HB⟩ := hcut
    cases kq with
    | zero => exact absurd HA.out (by simp [bonus_Check.j0])
    | succ kj1 =>
      have H := HA.out
      clear HA
      simp only [bonus_Check.j0] at H
      by_cases c15 : x3_1 = true
      · subst c15
        have H1 : (some 2) = some r := by rw [if_pos rfl] at H; exact H
        clear H
        have H := H1
        clear H1
        obtain rfl := Option.some.inj H
        go_wp2
        go_ret
        exact ⟨by first | rfl | (simp [errW_none, errW_some] <;> rfl) | (simp [*, errW_none, errW_some] <;> rfl), by repeat (first | (with_reducible first | exact HB.out | apply below_alloc | apply pw_below_drewN | apply below_drew1 | refine below_set ?_ GE101.out) | exact HB.out)⟩
      · replace c15 := Bool.eq_false_iff.mpr c15
        subst c15
        have H1 : (if a0_2 > a0_3 then (some 9) else (if a0_4 < 0 then (bonus_Check.j1 kj1 true a0_0 a0_1 a0_2 a0_3 a0_4 a0_5 a0_6) else (if a0_4 > 100000 then (bonus_Check.j1 kj1 true a0_0 a0_1 a0_2 a0_3 a0_4 a0_5 a0_6) else (if a0_6 = true then (bonus_Check.j1 kj1 false a0_0 a0_1 a0_2 a0_3 a0_4 a0_5 a0_6) else (bonus_Check.j1 kj1 (decide (a0_4 ≥ a0_2)) a0_0 a0_1 a0_2 a0_3 a0_4 a0_5 a0_6))))) = some r := by rw [if_neg (show ¬ (false = true) by decide)] at H; exact H
        clear H
        have H := H1
        clear H1
        by_cases c16 : a0_2 > a0_3
        · rw [if_pos c16] at H
          have c16b0 : decide (a0_3 < a0_2) = true := decide_eq_true c16
          clear c16
          obtain rfl := Option.some.inj H
          have hcz17_0 : wc.cell? ⟨gb101, 0, none⟩ = some (.int .i64 a0_0) := (blk_cell BK101.out 0).trans rfl
          have hcz17_1 : wc.cell? ⟨gb101, 1, none⟩ = some (.int .i64 a0_1) := (blk_cell BK101.out 1).trans rfl
          have hcz17_2 : wc.cell? ⟨gb101, 2, none⟩ = some (.int .i64 a0_2) := (blk_cell BK101.out 2).trans rfl
          have hcz17_3 : wc.cell? ⟨gb101, 3, none⟩ = some (.int .i64 a0_3) := (blk_cell BK101.out 3).trans rfl
          have hcz17_4 : wc.cell? ⟨gb101, 4, none⟩ = some (.int .i64 a0_4) := (blk_cell BK101.out 4).trans rfl
          have hcz17_5 : wc.cell? ⟨gb101, 5, none⟩ = some (.int .i64 a0_5) := (blk_cell BK101.out 5).trans rfl
          have hcz17_6 : wc.cell? ⟨gb101, 6, none⟩ = some (.bool a0_6) := (blk_cell BK101.out 6).trans rfl
          have hfz17_0 := blk_frozen BK101.out 0
          have hfz17_1 := blk_frozen BK101.out 1
          have hfz17_2 := blk_frozen BK101.out 2
          have hfz17_3 := blk_frozen BK101.out 3
          have hfz17_4 := blk_frozen BK101.out 4
          have hfz17_5 := blk_frozen BK101.out 5
          have hfz17_6 := blk_frozen BK101.out 6
          go_wp2
          go_ret
          exact ⟨by first | rfl | (simp [errW_none, errW_some] <;> rfl) | (simp [*, errW_none, errW_some] <;> rfl), by repeat (first | (with_reducible first | exact HB.out | apply below_alloc | apply pw_below_drewN | apply below_drew1 | refine below_set ?_ GE101.out) | exact HB.out)⟩
        · rw [if_neg c16] at H
          have c16b0 : decide (a0_3 < a0_2) = false := decide_eq_false c16
          clear c16
          have HC18 := Aside0.mk H
          clear H
          have hcz19_0 : wc.cell? ⟨gb101, 0, none⟩ = some (.int .i64 a0_0) := (blk_cell BK101.out 0).trans rfl
          have hcz19_1 : wc.cell? ⟨gb101, 1, none⟩ = some (.int .i64 a0_1) := (blk_cell BK101.out 1).trans rfl
          have hcz19_2 : wc.cell? ⟨gb101, 2, none⟩ = some (.int .i64 a0_2) := (blk_cell BK101.out 2).trans rfl
          have hcz19_3 : wc.cell? ⟨gb101, 3, none⟩ = some (.int .i64 a0_3) := (blk_cell BK101.out 3).trans rfl
          have hcz19_4 : wc.cell? ⟨gb101, 4, none⟩ = some (.int .i64 a0_4) := (blk_cell BK101.out 4).trans rfl
          have hcz19_5 : wc.cell? ⟨gb101, 5, none⟩ = some (.int .i64 a0_5) := (blk_cell BK101.out 5).trans rfl
          have hcz19_6 : wc.cell? ⟨gb101, 6, none⟩ = some (.bool a0_6) := (blk_cell BK101.out 6).trans rfl
          have hfz19_0 := blk_frozen BK101.out 0
          have hfz19_1 := blk_frozen BK101.out 1
          have hfz19_2 := blk_frozen BK101.out 2
          have hfz19_3 := blk_frozen BK101.out 3
          have hfz19_4 := blk_frozen BK101.out 4
          have hfz19_5 := blk_frozen BK101.out 5
          have hfz19_6 := blk_frozen BK101.out 6
          go_upto_region 5 with (fail)
          go_cut [38] (fun v38 wc => ∃ (kq : Nat) (x38_17 : Bool), v38 = .bool x38_17 ∧ Aside0 (bonus_Check.j1 kq x38_17 a0_0 a0_1 a0_2 a0_3 a0_4 a0_5 a0_6 = some r) ∧ Aside0 (kq ≤ kj1) ∧ Aside0 (wc.heap[gb101]? = some (.cells #[.int .i64 a0_0, .int .i64 a0_1, .int .i64 a0_2, .int .i64 a0_3, .int .i64 a0_4, .int .i64 a0_5, .bool a0_6] 27 (0, 0))) ∧ Aside0 (Below w.heap.size w wc))
          case first =>
            have H := HC18.out
            clear HC18
            by_cases c20 : a0_4 < 0
            · rw [if_pos c20] at H
              have c20b0 : decide (a0_4 < 0) = true := decide_eq_true c20
              clear c20
              (first | rw [c20b0] | (simp only [i64_w, i32_w]; rw [c20b0]) | skip)
              have H' := Aside0.mk H
              clear H
              have hcz21_0 : wc.cell? ⟨gb101, 0, none⟩ = some (.int .i64 a0_0) := (blk_cell BK101.out 0).trans rfl
              have hcz21_1 : wc.cell? ⟨gb101, 1, none⟩ = some (.int .i64 a0_1) := (blk_cell BK101.out 1).trans rfl
              have hcz21_2 : wc.cell? ⟨gb101, 2, none⟩ = some (.int .i64 a0_2) := (blk_cell BK101.out 2).trans rfl
              have hcz21_3 : wc.cell? ⟨gb101, 3, none⟩ = some (.int .i64 a0_3) := (blk_cell BK101.out 3).trans rfl
              have hcz21_4 : wc.cell? ⟨gb101, 4, none⟩ = some (.int .i64 a0_4) := (blk_cell BK101.out 4).trans rfl
              have hcz21_5 : wc.cell? ⟨gb101, 5, none⟩ = some (.int .i64 a0_5) := (blk_cell BK101.out 5).trans rfl
              have hcz21_6 : wc.cell? ⟨gb101, 6, none⟩ = some (.bool a0_6) := (blk_cell BK101.out 6).trans rfl
              have hfz21_0 := blk_frozen BK101.out 0
              have hfz21_1 := blk_frozen BK101.out 1
              have hfz21_2 := blk_frozen BK101.out 2
              have hfz21_3 := blk_frozen BK101.out 3
              have hfz21_4 := blk_frozen BK101.out 4
              have hfz21_5 := blk_frozen BK101.out 5
              have hfz21_6 := blk_frozen BK101.out 6
              go_wp2
              go_meet
              case rel => exact ⟨_, (true), (by first | rfl | (simp; done) | (simp [*]; done)), H', ⟨by have := HJ1.out; first | omega | exact Nat.le_refl _⟩, ⟨by (with_reducible repeat (first | refine blk_drewN ?_ _ | refine blk_drew ?_ | refine blk_alloc ?_ _)); exact BK101.out⟩, ⟨by repeat (first | (with_reducible first | exact HB.out | apply below_alloc | apply pw_below_drewN | apply below_drew1 | refine below_set ?_ GE101.out) | exact HB.out)⟩⟩
            · rw [if_neg c20] at H
              have c20b0 : decide (a0_4 < 0) = false := decide_eq_false c20
              clear c20
              (first | rw [c20b0] | (simp only [i64_w, i32_w]; rw [c20b0]) | skip)
              by_cases c22 : a0_4 > 100000
              · rw [if_pos c22] at H
                have c22b0 : decide (100000 < a0_4) = true := decide_eq_true c22
                clear c22
                have H' := Aside0.mk H
                clear H
                have hcz23_0 : wc.cell? ⟨gb101, 0, none⟩ = some (.int .i64 a0_0) := (blk_cell BK101.out 0).trans rfl
                have hcz23_1 : wc.cell? ⟨gb101, 1, none⟩ = some (.int .i64 a0_1) := (blk_cell BK101.out 1).trans rfl
                have hcz23_2 : wc.cell? ⟨gb101, 2, none⟩ = some (.int .i64 a0_2) := (blk_cell BK101.out 2).trans rfl
                have hcz23_3 : wc.cell? ⟨gb101, 3, none⟩ = some (.int .i64 a0_3) := (blk_cell BK101.out 3).trans rfl
                have hcz23_4 : wc.cell? ⟨gb101, 4, none⟩ = some (.int .i64 a0_4) := (blk_cell BK101.out 4).trans rfl
                have hcz23_5 : wc.cell? ⟨gb101, 5, none⟩ = some (.int .i64 a0_5) := (blk_cell BK101.out 5).trans rfl
                have hcz23_6 : wc.cell? ⟨gb101, 6, none⟩ = some (.bool a0_6) := (blk_cell BK101.out 6).trans rfl
                have hfz23_0 := blk_frozen BK101.out 0
                have hfz23_1 := blk_frozen BK101.out 1
                have hfz23_2 := blk_frozen BK101.out 2
                have hfz23_3 := blk_frozen BK101.out 3
                have hfz23_4 := blk_frozen BK101.out 4
                have hfz23_5 := blk_frozen BK101.out 5
                have hfz23_6 := blk_frozen BK101.out 6
                go_wp2
                go_meet
                case rel => exact ⟨_, (true), (by first | rfl | (simp; done) | (simp [*]; done)), H', ⟨by have := HJ1.out; first | omega | exact Nat.le_refl _⟩, ⟨by (with_reducible repeat (first | refine blk_drewN ?_ _ | refine blk_drew ?_ | refine blk_alloc ?_ _)); exact BK101.out⟩, ⟨by repeat (first | (with_reducible first | exact HB.out | apply below_alloc | apply pw_below_drewN | apply below_drew1 | refine below_set ?_ GE101.out) | exact HB.out)⟩⟩
              · rw [if_neg c22] at H
                have c22b0 : decide (100000 < a0_4) = false := decide_eq_false c22
                clear c22
                by_cases c24 : a0_6 = true
                · subst c24
                  have H1 : (bonus_Check.j1 kj1 false a0_0 a0_1 a0_2 a0_3 a0_4 a0_5 true) = some r := by rw [if_pos rfl] at H; exact H
                  clear H
                  have H := H1
                  clear H1
                  have H' := Aside0.mk H
                  clear H
                  have hcz25_0 : wc.cell? ⟨gb101, 0, none⟩ = some (.int .i64 a0_0) := (blk_cell BK101.out 0).trans rfl
                  have hcz25_1 : wc.cell? ⟨gb101, 1, none⟩ = some (.int .i64 a0_1) := (blk_cell BK101.out 1).trans rfl
                  have hcz25_2 : wc.cell? ⟨gb101, 2, none⟩ = some (.int .i64 a0_2) := (blk_cell BK101.out 2).trans rfl
                  have hcz25_3 : wc.cell? ⟨gb101, 3, none⟩ = some (.int .i64 a0_3) := (blk_cell BK101.out 3).trans rfl
                  have hcz25_4 : wc.cell? ⟨gb101, 4, none⟩ = some (.int .i64 a0_4) := (blk_cell BK101.out 4).trans rfl
                  have hcz25_5 : wc.cell? ⟨gb101, 5, none⟩ = some (.int .i64 a0_5) := (blk_cell BK101.out 5).trans rfl
                  have hcz25_6 : wc.cell? ⟨gb101, 6, none⟩ = some (.bool true) := (blk_cell BK101.out 6).trans rfl
                  have hfz25_0 := blk_frozen BK101.out 0
                  have hfz25_1 := blk_frozen BK101.out 1
                  have hfz25_2 := blk_frozen BK101.out 2
                  have hfz25_3 := blk_frozen BK101.out 3
                  have hfz25_4 := blk_frozen BK101.out 4
                  have hfz25_5 := blk_frozen BK101.out 5
                  have hfz25_6 := blk_frozen BK101.out 6
                  go_wp2
                  go_meet
                  case rel => exact ⟨_, (false), (by first | rfl | (simp; done) | (simp [*]; done)), H', ⟨by have := HJ1.out; first | omega | exact Nat.le_refl _⟩, ⟨by (with_reducible repeat (first | refine blk_drewN ?_ _ | refine blk_drew ?_ | refine blk_alloc ?_ _)); exact BK101.out⟩, ⟨by repeat (first | (with_reducible first | exact HB.out | apply below_alloc | apply pw_below_drewN | apply below_drew1 | refine below_set ?_ GE101.out) | exact HB.out)⟩⟩
                · replace c24 := Bool.eq_false_iff.mpr c24
                  subst c24
                  have H1 : (bonus_Check.j1 kj1 (decide (a0_4 ≥ a0_2)) a0_0 a0_1 a0_2 a0_3 a0_4 a0_5 false) = some r := by rw [if_neg (show ¬ (false = true) by decide)] at H; exact H
                  clear H
                  have H := H1
                  clear H1
                  have H' := Aside0.mk H
                  clear H
                  have hcz26_0 : wc.cell? ⟨gb101, 0, none⟩ = some (.int .i64 a0_0) := (blk_cell BK101.out 0).trans rfl
                  have hcz26_1 : wc.cell? ⟨gb101, 1, none⟩ = some (.int .i64 a0_1) := (blk_cell BK101.out 1).trans rfl
                  have hcz26_2 : wc.cell? ⟨gb101, 2, none⟩ = some (.int .i64 a0_2) := (blk_cell BK101.out 2).trans rfl
                  have hcz26_3 : wc.cell? ⟨gb101, 3, none⟩ = some (.int .i64 a0_3) := (blk_cell BK101.out 3).trans rfl
                  have hcz26_4 : wc.cell? ⟨gb101, 4, none⟩ = some (.int .i64 a0_4) := (blk_cell BK101.out 4).trans rfl
                  have hcz26_5 : wc.cell? ⟨gb101, 5, none⟩ = some (.int .i64 a0_5) := (blk_cell BK101.out 5).trans rfl
                  have hcz26_6 : wc.cell? ⟨gb101, 6, none⟩ = some (.bool false) := (blk_cell BK101.out 6).trans rfl
                  have hfz26_0 := blk_frozen BK101.out 0
                  have hfz26_1 := blk_frozen BK101.out 1
                  have hfz26_2 := blk_frozen BK101.out 2
                  have hfz26_3 := blk_frozen BK101.out 3
                  have hfz26_4 := blk_frozen BK101.out 4
                  have hfz26_5 := blk_frozen BK101.out 5
                  have hfz26_6 := blk_frozen BK101.out 6
                  go_wp2
                  go_meet
                  case rel => exact ⟨_, (decide (a0_4 ≥ a0_2)), (by first | rfl | (simp; done) | (simp [*]; done)), H', ⟨by have := HJ1.out; first | omega | exact Nat.le_refl _⟩, ⟨by (with_reducible repeat (first | refine blk_drewN ?_ _ | refine blk_drew ?_ | refine blk_alloc ?_ _)); exact BK101.out⟩, ⟨by repeat (first | (with_reducible first | exact HB.out | apply below_alloc | apply pw_below_drewN | apply below_drew1 | refine below_set ?_ GE101.out) | exact HB.out)⟩⟩
          case rest =>
            clear HC18
            try clear c1
            try clear c2
            try clear p2
            try clear c5
            try clear c7
            try clear c9
            try clear c15
            try clear c16
            try clear c16b0
            try clear c20
            try clear c20b0
            try clear c22
            try clear c22b0
            try clear c24
            try clear hcz11_0
            try clear hcz11_1
            try clear hcz11_2
            try clear hcz11_3
            try clear hcz11_4
            try clear hcz11_5
            try clear hcz11_6
            try clear hcz12_0
            try clear hcz12_1
            try clear hcz12_2
            try clear hcz12_3
            try clear hcz12_4
            try clear hcz12_5
            try clear hcz12_6
            try clear hcz13_0
            try clear hcz13_1
            try clear hcz13_2
            try clear hcz13_3
            try clear hcz13_4
            try clear hcz13_5
            try clear hcz13_6
            try clear hcz14_0
            try clear hcz14_1
            try clear hcz14_2
            try clear hcz14_3
            try clear hcz14_4
            try clear hcz14_5
            try clear hcz14_6
            try clear hcz17_0
            try clear hcz17_1
            try clear hcz17_2
            try clear hcz17_3
            try clear hcz17_4
            try clear hcz17_5
            try clear hcz17_6
            try clear hcz19_0
            try clear hcz19_1
            try clear hcz19_2
            try clear hcz19_3
            try clear hcz19_4
            try clear hcz19_5
            try clear hcz19_6
            try clear hcz21_0
            try clear hcz21_1
            try clear hcz21_2
            try clear hcz21_3
            try clear hcz21_4
            try clear hcz21_5
            try clear hcz21_6
            try clear hcz23_0
            try clear hcz23_1
            try clear hcz23_2
            try clear hcz23_3
            try clear hcz23_4
            try clear hcz23_5
            try clear hcz23_6
            try clear hcz25_0
            try clear hcz25_1
            try clear hcz25_2
            try clear hcz25_3
            try clear hcz25_4
            try clear hcz25_5
            try clear hcz25_6
            try clear hcz26_0
            try clear hcz26_1
            try clear hcz26_2
            try clear hcz26_3
            try clear hcz26_4
            try clear hcz26_5
            try clear hcz26_6
            try clear hfz11_0
            try clear hfz11_1
            try clear hfz11_2
            try clear hfz11_3
            try clear hfz11_4
            try clear hfz11_5
            try clear hfz11_6
            try clear hfz12_0
            try clear hfz12_1
            try clear hfz12_2
            try clear hfz12_3
            try clear hfz12_4
            try clear hfz12_5
            try clear hfz12_6
            try clear hfz13_0
            try clear hfz13_1
            try clear hfz13_2
            try clear hfz13_3
            try clear hfz13_4
            try clear hfz13_5
            try clear hfz13_6
            try clear hfz14_0
            try clear hfz14_1
            try clear hfz14_2
            try clear hfz14_3
            try clear hfz14_4
            try clear hfz14_5
            try clear hfz14_6
            try clear hfz17_0
            try clear hfz17_1
            try clear hfz17_2
            try clear hfz17_3
            try clear hfz17_4
            try clear hfz17_5
            try clear hfz17_6
            try clear hfz19_0
            try clear hfz19_1
            try clear hfz19_2
            try clear hfz19_3
            try clear hfz19_4
            try clear hfz19_5
            try clear hfz19_6
            try clear hfz21_0
            try clear hfz21_1
            try clear hfz21_2
            try clear hfz21_3
            try clear hfz21_4
            try clear hfz21_5
            try clear hfz21_6
            try clear hfz23_0
            try clear hfz23_1
            try clear hfz23_2
            try clear hfz23_3
            try clear hfz23_4
            try clear hfz23_5
            try clear hfz23_6
            try clear hfz25_0
            try clear hfz25_1
            try clear hfz25_2
            try clear hfz25_3
            try clear hfz25_4
            try clear hfz25_5
            try clear hfz25_6
            try clear hfz26_0
            try clear hfz26_1
            try clear hfz26_2
            try clear hfz26_3
            try clear hfz26_4
            try clear hfz26_5
            try clear hfz26_6
            try clear p2
            obtain ⟨kq, x38_17, rfl, HA, HJ17, BK101, HB⟩ := hcut
            cases kq with
            | zero => exact absurd HA.out (by simp [bonus_Check.j1])
            | succ kj17 =>
              have H := HA.out
              clear HA
              simp only [bonus_Check.j1] at H
              by_cases c27 : x38_17 = true
              · subst c27
                have H1 : (some 2) = some r := by rw [if_pos rfl] at H; exact H
                clear H
                have H := H1
                clear H1
                obtain rfl := Option.some.inj H
                go_wp2
                go_ret
                exact ⟨by first | rfl | (simp [errW_none, errW_some] <;> rfl) | (simp [*, errW_none, errW_some] <;> rfl), by repeat (first | (with_reducible first | exact HB.out | apply below_alloc | apply pw_below_drewN | apply below_drew1 | refine below_set ?_ GE101.out) | exact HB.out)⟩
              · replace c27 := Bool.eq_false_iff.mpr c27
                subst c27
                have H1 : (if a0_5 < 0 then (some 1) else (if a0_5 ≥ 3 then (some 1) else (some 0))) = some r := by rw [if_neg (show ¬ (false = true) by decide)] at H; exact H
                clear H
                have H := H1
                clear H1
                by_cases c28 : a0_5 < 0
                · rw [if_pos c28] at H
                  have c28b0 : decide (a0_5 < 0) = true := decide_eq_true c28
                  clear c28
                  obtain rfl := Option.some.inj H
                  have hcz29_0 : wc.cell? ⟨gb101, 0, none⟩ = some (.int .i64 a0_0) := (blk_cell BK101.out 0).trans rfl
                  have hcz29_1 : wc.cell? ⟨gb101, 1, none⟩ = some (.int .i64 a0_1) := (blk_cell BK101.out 1).trans rfl
                  have hcz29_2 : wc.cell? ⟨gb101, 2, none⟩ = some (.int .i64 a0_2) := (blk_cell BK101.out 2).trans rfl
                  have hcz29_3 : wc.cell? ⟨gb101, 3, none⟩ = some (.int .i64 a0_3) := (blk_cell BK101.out 3).trans rfl
                  have hcz29_4 : wc.cell? ⟨gb101, 4, none⟩ = some (.int .i64 a0_4) := (blk_cell BK101.out 4).trans rfl
                  have hcz29_5 : wc.cell? ⟨gb101, 5, none⟩ = some (.int .i64 a0_5) := (blk_cell BK101.out 5).trans rfl
                  have hcz29_6 : wc.cell? ⟨gb101, 6, none⟩ = some (.bool a0_6) := (blk_cell BK101.out 6).trans rfl
                  have hfz29_0 := blk_frozen BK101.out 0
                  have hfz29_1 := blk_frozen BK101.out 1
                  have hfz29_2 := blk_frozen BK101.out 2
                  have hfz29_3 := blk_frozen BK101.out 3
                  have hfz29_4 := blk_frozen BK101.out 4
                  have hfz29_5 := blk_frozen BK101.out 5
                  have hfz29_6 := blk_frozen BK101.out 6
                  go_wp2
                  go_ret
                  exact ⟨by first | rfl | (simp [errW_none, errW_some] <;> rfl) | (simp [*, errW_none, errW_some] <;> rfl), by repeat (first | (with_reducible first | exact HB.out | apply below_alloc | apply pw_below_drewN | apply below_drew1 | refine below_set ?_ GE101.out) | exact HB.out)⟩
                · rw [if_neg c28] at H
                  have c28b0 : decide (a0_5 < 0) = false := decide_eq_false c28
                  clear c28
                  by_cases c30 : a0_5 ≥ 3
                  · rw [if_pos c30] at H
                    have c30b0 : decide (3 ≤ a0_5) = true := decide_eq_true c30
                    clear c30
                    obtain rfl := Option.some.inj H
                    have hcz31_0 : wc.cell? ⟨gb101, 0, none⟩ = some (.int .i64 a0_0) := (blk_cell BK101.out 0).trans rfl
                    have hcz31_1 : wc.cell? ⟨gb101, 1, none⟩ = some (.int .i64 a0_1) := (blk_cell BK101.out 1).trans rfl
                    have hcz31_2 : wc.cell? ⟨gb101, 2, none⟩ = some (.int .i64 a0_2) := (blk_cell BK101.out 2).trans rfl
                    have hcz31_3 : wc.cell? ⟨gb101, 3, none⟩ = some (.int .i64 a0_3) := (blk_cell BK101.out 3).trans rfl
                    have hcz31_4 : wc.cell? ⟨gb101, 4, none⟩ = some (.int .i64 a0_4) := (blk_cell BK101.out 4).trans rfl
                    have hcz31_5 : wc.cell? ⟨gb101, 5, none⟩ = some (.int .i64 a0_5) := (blk_cell BK101.out 5).trans rfl
                    have hcz31_6 : wc.cell? ⟨gb101, 6, none⟩ = some (.bool a0_6) := (blk_cell BK101.out 6).trans rfl
                    have hfz31_0 := blk_frozen BK101.out 0
                    have hfz31_1 := blk_frozen BK101.out 1
                    have hfz31_2 := blk_frozen BK101.out 2
                    have hfz31_3 := blk_frozen BK101.out 3
                    have hfz31_4 := blk_frozen BK101.out 4
                    have hfz31_5 := blk_frozen BK101.out 5
                    have hfz31_6 := blk_frozen BK101.out 6
                    go_wp2
                    go_ret
                    exact ⟨by first | rfl | (simp [errW_none, errW_some] <;> rfl) | (simp [*, errW_none, errW_some] <;> rfl), by repeat (first | (with_reducible first | exact HB.out | apply below_alloc | apply pw_below_drewN | apply below_drew1 | refine below_set ?_ GE101.out) | exact HB.out)⟩
                  · rw [if_neg c30] at H
                    have c30b0 : decide (3 ≤ a0_5) = false := decide_eq_false c30
                    clear c30
                    obtain rfl := Option.some.inj H
                    have hcz32_0 : wc.cell? ⟨gb101, 0, none⟩ = some (.int .i64 a0_0) := (blk_cell BK101.out 0).trans rfl
                    have hcz32_1 : wc.cell? ⟨gb101, 1, none⟩ = some (.int .i64 a0_1) := (blk_cell BK101.out 1).trans rfl
                    have hcz32_2 : wc.cell? ⟨gb101, 2, none⟩ = some (.int .i64 a0_2) := (blk_cell BK101.out 2).trans rfl
                    have hcz32_3 : wc.cell? ⟨gb101, 3, none⟩ = some (.int .i64 a0_3) := (blk_cell BK101.out 3).trans rfl
                    have hcz32_4 : wc.cell? ⟨gb101, 4, none⟩ = some (.int .i64 a0_4) := (blk_cell BK101.out 4).trans rfl
                    have hcz32_5 : wc.cell? ⟨gb101, 5, none⟩ = some (.int .i64 a0_5) := (blk_cell BK101.out 5).trans rfl
                    have hcz32_6 : wc.cell? ⟨gb101, 6, none⟩ = some (.bool a0_6) := (blk_cell BK101.out 6).trans rfl
                    have hfz32_0 := blk_frozen BK101.out 0
                    have hfz32_1 := blk_frozen BK101.out 1
                    have hfz32_2 := blk_frozen BK101.out 2
                    have hfz32_3 := blk_frozen BK101.out 3
                    have hfz32_4 := blk_frozen BK101.out 4
                    have hfz32_5 := blk_frozen BK101.out 5
                    have hfz32_6 := blk_frozen BK101.out 6
                    go_wp2
                    go_ret
                    exact ⟨by first | rfl | (simp [errW_none, errW_some] <;> rfl) | (simp [*, errW_none, errW_some] <;> rfl), by repeat (first | (with_reducible first | exact HB.out | apply below_alloc | apply pw_below_drewN | apply below_drew1 | refine below_set ?_ GE101.out) | exact HB.out)⟩
def bonus_of.f (a0_0 : Int) (a0_1 : Int) (a0_2 : Int) (a0_3 : Int) (a0_4 : Int) (a0_5 : Int) (a0_6 : Bool) : Option (Int × Int × Int × Int × Int × Int × Bool × Int) := if 0 ≤ a0_5 ∧ a0_5 ≤ 2 then some (a0_0, a0_1, a0_2, a0_3, a0_4, a0_5, a0_6, sgn a0_5 a0_6) else none
theorem bonus_of.calls (a0_0 : Int) (a0_1 : Int) (a0_2 : Int) (a0_3 : Int) (a0_4 : Int) (a0_5 : Int) (a0_6 : Bool) (r1 r2 r3 r4 r5 r6 : Int) (r7 : Bool) (r8 : Int) (w : World) (h : bonus_of.f a0_0 a0_1 a0_2 a0_3 a0_4 a0_5 a0_6 = some (r1, r2, r3, r4, r5, r6, r7, r8)) (hS : SignsAt w) :
    Calls Tryd.prog 67 #[.agg #[.int .i64 a0_0, .int .i64 a0_1, .int .i64 a0_2, .int .i64 a0_3, .int .i64 a0_4, .int .i64 a0_5, .bool a0_6]] w fun e w' => e = .returned (.agg #[.int .i64 r1, .int .i64 r2, .int .i64 r3, .int .i64 r4, .int .i64 r5, .int .i64 r6, .bool r7, .int .i64 r8]) ∧ Below w.heap.size w w' := by
  unfold bonus_of.f at h
  by_cases hc : 0 ≤ a0_5 ∧ a0_5 ≤ 2
  · rw [if_pos hc] at h
    simp only [Option.some.injEq, Prod.mk.injEq] at h
    obtain ⟨rfl, rfl, rfl, rfl, rfl, rfl, rfl, rfl⟩ := h
    exact of_any _ _ _ _ _ _ _ w hc.1 hc.2 hS
  · rw [if_neg hc] at h
    cases h
def bonus_condition_end.f (a0_0 : Int) (a0_1 : Int) (a0_2 : Int) (a0_3 : Int) (a0_4 : Int) (a0_5 : Int) (a0_6 : Bool) (a0_7 : Int) (a1 : Int) : Option (Int) := if a1 < 0 then (some a0_2) else (some a0_3)
set_option maxHeartbeats 8000000 in
set_option maxRecDepth 100000 in
theorem bonus_condition_end.calls (a0_0 : Int) (a0_1 : Int) (a0_2 : Int) (a0_3 : Int) (a0_4 : Int) (a0_5 : Int) (a0_6 : Bool) (a0_7 : Int) (a1 : Int) (r : Int) (w : World) (h : bonus_condition_end.f a0_0 a0_1 a0_2 a0_3 a0_4 a0_5 a0_6 a0_7 a1 = some r) :
    Calls Tryd.prog 68 #[.agg #[.int .i64 a0_0, .int .i64 a0_1, .int .i64 a0_2, .int .i64 a0_3, .int .i64 a0_4, .int .i64 a0_5, .bool a0_6, .int .i64 a0_7], .int .i64 a1] w fun e w' => e = .returned (.int .i64 r) ∧ Below w.heap.size w w' := by
  have hu113 := Tryd.underlying113
  have HB := Aside0.mk (Below.refl w.heap.size w)
  have H : (if a1 < 0 then (some a0_2) else (some a0_3)) = some r := h
  clear h
  by_cases c3 : a1 < 0
  · rw [if_pos c3] at H
    have c3b0 : decide (a1 < 0) = true := decide_eq_true c3
    clear c3
    obtain rfl := Option.some.inj H
    go_enter Tryd.func68, Tryd.ntmps68
    go_wp2_with (first | ((with_reducible refine gate_dst (N := 2) rfl ?_); refine box_event ?hg (N := 2) ?hd (cs := #[.int .i64 a0_0, .int .i64 a0_1, .int .i64 a0_2, .int .i64 a0_3, .int .i64 a0_4, .int .i64 a0_5, .bool a0_6, .int .i64 a0_7]) (t := 113) ?hr ?_; (case hd => rfl); (case hg => rfl); (case hr => first | (go_simp; done) | (go_simp; rfl)); intro gb106 hg w4 hbox hb; have n0_ := Aside0.mk (below_step (by repeat (first | (with_reducible first | exact HB.out | apply below_alloc | apply pw_below_drewN | apply below_drew1) | exact HB.out)) hb); have n1_ := Aside0.mk (hbox); have n2_ := Aside0.mk ((by rw [hg]; exact (below_size (by repeat (first | (with_reducible first | exact HB.out | apply below_alloc | apply pw_below_drewN | apply below_drew1) | exact HB.out))) : w.heap.size ≤ gb106)); have n3_ := Aside0.mk ((by rw [hg]; exact (below_size (by repeat (first | (with_reducible first | exact HB.out | apply below_alloc | apply pw_below_drewN | apply below_drew1) | exact HB.out))) : w.heap.size ≤ gb106)); clear HB; have HB := n0_; have BK106 := n1_; have GW106 := n2_; have GE106 := n3_; clear n0_ n1_ n2_ n3_; clear hb hbox hg; have hcz5_0 : w4.cell? ⟨gb106, 0, none⟩ = some (.int .i64 a0_0) := (blk_cell BK106.out 0).trans rfl; have hcz5_1 : w4.cell? ⟨gb106, 1, none⟩ = some (.int .i64 a0_1) := (blk_cell BK106.out 1).trans rfl; have hcz5_2 : w4.cell? ⟨gb106, 2, none⟩ = some (.int .i64 a0_2) := (blk_cell BK106.out 2).trans rfl; have hcz5_3 : w4.cell? ⟨gb106, 3, none⟩ = some (.int .i64 a0_3) := (blk_cell BK106.out 3).trans rfl; have hcz5_4 : w4.cell? ⟨gb106, 4, none⟩ = some (.int .i64 a0_4) := (blk_cell BK106.out 4).trans rfl; have hcz5_5 : w4.cell? ⟨gb106, 5, none⟩ = some (.int .i64 a0_5) := (blk_cell BK106.out 5).trans rfl; have hcz5_6 : w4.cell? ⟨gb106, 6, none⟩ = some (.bool a0_6) := (blk_cell BK106.out 6).trans rfl; have hcz5_7 : w4.cell? ⟨gb106, 7, none⟩ = some (.int .i64 a0_7) := (blk_cell BK106.out 7).trans rfl; have hfz5_0 := blk_frozen BK106.out 0; have hfz5_1 := blk_frozen BK106.out 1; have hfz5_2 := blk_frozen BK106.out 2; have hfz5_3 := blk_frozen BK106.out 3; have hfz5_4 := blk_frozen BK106.out 4; have hfz5_5 := blk_frozen BK106.out 5; have hfz5_6 := blk_frozen BK106.out 6; have hfz5_7 := blk_frozen BK106.out 7))
    go_ret
    exact ⟨by first | rfl | (simp [errW_none, errW_some] <;> rfl) | (simp [*, errW_none, errW_some] <;> rfl), by repeat (first | (with_reducible first | exact HB.out | apply below_alloc | apply pw_below_drewN | apply below_drew1 | refine below_set ?_ GE106.out) | exact HB.out)⟩
  · rw [if_neg c3] at H
    have c3b0 : decide (a1 < 0) = false := decide_eq_false c3
    clear c3
    obtain rfl := Option.some.inj H
    go_enter Tryd.func68, Tryd.ntmps68
    go_wp2_with (first | ((with_reducible refine gate_dst (N := 2) rfl ?_); refine box_event ?hg (N := 2) ?hd (cs := #[.int .i64 a0_0, .int .i64 a0_1, .int .i64 a0_2, .int .i64 a0_3, .int .i64 a0_4, .int .i64 a0_5, .bool a0_6, .int .i64 a0_7]) (t := 113) ?hr ?_; (case hd => rfl); (case hg => rfl); (case hr => first | (go_simp; done) | (go_simp; rfl)); intro gb106 hg w6 hbox hb; have n0_ := Aside0.mk (below_step (by repeat (first | (with_reducible first | exact HB.out | apply below_alloc | apply pw_below_drewN | apply below_drew1) | exact HB.out)) hb); have n1_ := Aside0.mk (hbox); have n2_ := Aside0.mk ((by rw [hg]; exact (below_size (by repeat (first | (with_reducible first | exact HB.out | apply below_alloc | apply pw_below_drewN | apply below_drew1) | exact HB.out))) : w.heap.size ≤ gb106)); have n3_ := Aside0.mk ((by rw [hg]; exact (below_size (by repeat (first | (with_reducible first | exact HB.out | apply below_alloc | apply pw_below_drewN | apply below_drew1) | exact HB.out))) : w.heap.size ≤ gb106)); clear HB; have HB := n0_; have BK106 := n1_; have GW106 := n2_; have GE106 := n3_; clear n0_ n1_ n2_ n3_; clear hb hbox hg; have hcz7_0 : w6.cell? ⟨gb106, 0, none⟩ = some (.int .i64 a0_0) := (blk_cell BK106.out 0).trans rfl; have hcz7_1 : w6.cell? ⟨gb106, 1, none⟩ = some (.int .i64 a0_1) := (blk_cell BK106.out 1).trans rfl; have hcz7_2 : w6.cell? ⟨gb106, 2, none⟩ = some (.int .i64 a0_2) := (blk_cell BK106.out 2).trans rfl; have hcz7_3 : w6.cell? ⟨gb106, 3, none⟩ = some (.int .i64 a0_3) := (blk_cell BK106.out 3).trans rfl; have hcz7_4 : w6.cell? ⟨gb106, 4, none⟩ = some (.int .i64 a0_4) := (blk_cell BK106.out 4).trans rfl; have hcz7_5 : w6.cell? ⟨gb106, 5, none⟩ = some (.int .i64 a0_5) := (blk_cell BK106.out 5).trans rfl; have hcz7_6 : w6.cell? ⟨gb106, 6, none⟩ = some (.bool a0_6) := (blk_cell BK106.out 6).trans rfl; have hcz7_7 : w6.cell? ⟨gb106, 7, none⟩ = some (.int .i64 a0_7) := (blk_cell BK106.out 7).trans rfl; have hfz7_0 := blk_frozen BK106.out 0; have hfz7_1 := blk_frozen BK106.out 1; have hfz7_2 := blk_frozen BK106.out 2; have hfz7_3 := blk_frozen BK106.out 3; have hfz7_4 := blk_frozen BK106.out 4; have hfz7_5 := blk_frozen BK106.out 5; have hfz7_6 := blk_frozen BK106.out 6; have hfz7_7 := blk_frozen BK106.out 7))
    go_ret
    exact ⟨by first | rfl | (simp [errW_none, errW_some] <;> rfl) | (simp [*, errW_none, errW_some] <;> rfl), by repeat (first | (with_reducible first | exact HB.out | apply below_alloc | apply pw_below_drewN | apply below_drew1 | refine below_set ?_ GE106.out) | exact HB.out)⟩
end Go.Proofs.YtjemaonejkepcaaDoor.B
namespace Go.Proofs.YtjemaonejkepcaaDoor.B
open Go.RowKit Go.Proofs.YtjemaonejkepcaaDoorW.PrintWords Go.Proofs.YtjemaonejkepcaaDoorW.PrintLast Go.Proofs.YtjemaonejkepcaaDoorW.PrintMore
attribute [local go_sem] max2_int min2_int max_two min_two max_three min_three max_four min_four   -- for this text's walks alone
set_option linter.unusedVariables false
set_option linter.unusedSimpArgs false
def bonus_Virtual.f (k : Nat) (a0_0 : Int) (a0_1 : Int) (a0_2 : Int) (a0_3 : Int) (a0_4 : Int) (a0_5 : Int) (a0_6 : Bool) : Option (Int × Int) := (bonus_Check.f k a0_0 a0_1 a0_2 a0_3 a0_4 a0_5 a0_6).bind fun t108 => (if t108 = 0 then ((bonus_of.f a0_0 a0_1 a0_2 a0_3 a0_4 a0_5 a0_6).bind fun bt109 => ((bonus_condition_end.f bt109.1 bt109.2.1 bt109.2.2.1 bt109.2.2.2.1 bt109.2.2.2.2.1 bt109.2.2.2.2.2.1 bt109.2.2.2.2.2.2.1 bt109.2.2.2.2.2.2.2 bt109.2.2.2.2.2.2.2).bind fun t118 => (some (wrap64 (t118 + (wrap64 (bt109.2.2.2.2.2.2.2 * bt109.2.2.2.2.1))), 0)))) else (some (0, t108)))
theorem bonus_Virtual.mono : ∀ a0 a1 a2 a3 a4 a5 a6 k, LeO (bonus_Virtual.f k a0 a1 a2 a3 a4 a5 a6) (bonus_Virtual.f (k + 1) a0 a1 a2 a3 a4 a5 a6) := by
  intro a0 a1 a2 a3 a4 a5 a6 k
  unfold bonus_Virtual.f
  repeat' first
      | (with_reducible exact bonus_Check.mono _ _ _ _ _ _ _ _)
      | (with_reducible exact LeO.refl _)
      | (with_reducible exact LeO.none _)
      | (with_reducible refine LeO.ite ?_ ?_)
      | (with_reducible refine LeO.bind ?_ (fun _ => ?_))
      | exact bonus_Check.mono _ _ _ _ _ _ _ _
      | exact LeO.none _
      | refine LeO.ite ?_ ?_
      | refine LeO.bind ?_ (fun _ => ?_)
def bonus_Virtual.T5 : Bool × List (List Nat × List Nat) := (true, [([], []), ([], []), ([1], [1]), ([0, 2], [0, 2]), ([], []), ([4], [4]), ([], []), ([6], [6]), ([7], [7]), ([5, 8], [5, 8]), ([3, 9], [3, 9]), ([10, 3, 0, 1, 2, 3, 4, 5, 6, 7, 8, 9, 10], [10]), ([11, 0, 1, 2, 3, 4, 5, 6, 7, 8, 9, 10, 11], [])])
def bonus_Virtual.B5 : List Nat := [0, 0, 2, 7, 0, 16, 0, 64, 192, 496, 1023, 2047, 4095]
theorem bonus_Virtual.tab5 : rtab .any (opsOf Tryd.f18 5) = bonus_Virtual.T5 := by kernel_rfl
theorem bonus_Virtual.bits5 : waitsOk bonus_Virtual.T5.2 bonus_Virtual.B5 = true := by kernel_rfl
set_option maxHeartbeats 8000000 in
set_option maxRecDepth 100000 in
theorem bonus_Virtual.calls (k : Nat) (a0_0 : Int) (a0_1 : Int) (a0_2 : Int) (a0_3 : Int) (a0_4 : Int) (a0_5 : Int) (a0_6 : Bool) (r1 : Int) (r2 : Int) (w : World) (h : bonus_Virtual.f k a0_0 a0_1 a0_2 a0_3 a0_4 a0_5 a0_6 = some (r1, r2)) (hS : SignsAt w) :
    Calls Tryd.prog 18 #[.agg #[.int .i64 a0_0, .int .i64 a0_1, .int .i64 a0_2, .int .i64 a0_3, .int .i64 a0_4, .int .i64 a0_5, .bool a0_6]] w fun e w' => e = .returned (.tuple #[.int .i64 r1, .int .i64 r2]) ∧ Below w.heap.size w w' := by
  have HS := Aside0.mk hS
  clear hS
  have hu27 := Tryd.underlying27
  have hu113 := Tryd.underlying113
  have HB := Aside0.mk (Below.refl w.heap.size w)
  have H : ((bonus_Check.f k a0_0 a0_1 a0_2 a0_3 a0_4 a0_5 a0_6).bind fun t108 => (if t108 = 0 then ((bonus_of.f a0_0 a0_1 a0_2 a0_3 a0_4 a0_5 a0_6).bind fun bt109 => ((bonus_condition_end.f bt109.1 bt109.2.1 bt109.2.2.1 bt109.2.2.2.1 bt109.2.2.2.2.1 bt109.2.2.2.2.2.1 bt109.2.2.2.2.2.2.1 bt109.2.2.2.2.2.2.2 bt109.2.2.2.2.2.2.2).bind fun t118 => (some (wrap64 (t118 + (wrap64 (bt109.2.2.2.2.2.2.2 * bt109.2.2.2.2.1))), 0)))) else (some (0, t108)))) = some (r1, r2) := h
  clear h
  replace H := Option.bind_eq_some_iff.mp H
  obtain ⟨t108, A20, H⟩ := H
  replace H : (if t108 = 0 then ((bonus_of.f a0_0 a0_1 a0_2 a0_3 a0_4 a0_5 a0_6).bind fun bt109 => ((bonus_condition_end.f bt109.1 bt109.2.1 bt109.2.2.1 bt109.2.2.2.1 bt109.2.2.2.2.1 bt109.2.2.2.2.2.1 bt109.2.2.2.2.2.2.1 bt109.2.2.2.2.2.2.2 bt109.2.2.2.2.2.2.2).bind fun t118 => (some (wrap64 (t118 + (wrap64 (bt109.2.2.2.2.2.2.2 * bt109.2.2.2.2.1))), 0)))) else (some (0, t108))) = some (r1, r2) := H
  have A2 := Aside0.mk A20
  clear A20
  by_cases c3 : t108 = 0
  · rw [if_pos c3] at H
    have c3b0 : (t108 == 0) = true := beq_iff_eq.mpr c3
    have c3b1 : (t108 != 0) = false := bne_eq_false_iff_eq.mpr c3
    clear c3
    replace H := Option.bind_eq_some_iff.mp H
    obtain ⟨⟨t109, t110, t111, t112, t113, t114, t115, t116⟩, A40, H⟩ := H
    replace H : ((bonus_condition_end.f t109 t110 t111 t112 t113 t114 t115 t116 t116).bind fun t118 => (some (wrap64 (t118 + (wrap64 (t116 * t113))), 0))) = some (r1, r2) := H
    have A4 := Aside0.mk A40
    clear A40
    replace H := Option.bind_eq_some_iff.mp H
    obtain ⟨t118, A50, H⟩ := H
    replace H : (some (wrap64 (t118 + (wrap64 (t116 * t113))), 0)) = some (r1, r2) := H
    have A5 := Aside0.mk A50
    clear A50
    simp only [Option.some.injEq, Prod.mk.injEq] at H
    obtain ⟨rfl, rfl⟩ := H
    go_enter Tryd.func18, Tryd.ntmps18
    try go_wp2_with (first | ((with_reducible refine gate_dst (N := 1) rfl ?_); refine box_event ?hg (N := 1) ?hd (cs := #[.int .i64 a0_0, .int .i64 a0_1, .int .i64 a0_2, .int .i64 a0_3, .int .i64 a0_4, .int .i64 a0_5, .bool a0_6]) (t := 27) ?hr ?_; (case hd => rfl); (case hg => rfl); (case hr => first | (go_simp; done) | (go_simp; rfl)); intro gb107 hg w6 hbox hb; have n0_ := Aside0.mk (below_step (by repeat (first | (with_reducible first | exact HB.out | apply below_alloc | apply pw_below_drewN | apply below_drew1) | exact HB.out)) hb); have n1_ := Aside0.mk (hbox); have n2_ := Aside0.mk ((by rw [hg]; exact (below_size (by repeat (first | (with_reducible first | exact HB.out | apply below_alloc | apply pw_below_drewN | apply below_drew1) | exact HB.out))) : w.heap.size ≤ gb107)); have n3_ := Aside0.mk ((by rw [hg]; exact (below_size (by repeat (first | (with_reducible first | exact HB.out | apply below_alloc | apply pw_below_drewN | apply below_drew1) | exact HB.out))) : w.heap.size ≤ gb107)); clear HB; have HB := n0_; have BK107 := n1_; have GW107 := n2_; have GE107 := n3_; clear n0_ n1_ n2_ n3_; clear hb hbox hg; have hcz7_0 : w6.cell? ⟨gb107, 0, none⟩ = some (.int .i64 a0_0) := (blk_cell BK107.out 0).trans rfl; have hcz7_1 : w6.cell? ⟨gb107, 1, none⟩ = some (.int .i64 a0_1) := (blk_cell BK107.out 1).trans rfl; have hcz7_2 : w6.cell? ⟨gb107, 2, none⟩ = some (.int .i64 a0_2) := (blk_cell BK107.out 2).trans rfl; have hcz7_3 : w6.cell? ⟨gb107, 3, none⟩ = some (.int .i64 a0_3) := (blk_cell BK107.out 3).trans rfl; have hcz7_4 : w6.cell? ⟨gb107, 4, none⟩ = some (.int .i64 a0_4) := (blk_cell BK107.out 4).trans rfl; have hcz7_5 : w6.cell? ⟨gb107, 5, none⟩ = some (.int .i64 a0_5) := (blk_cell BK107.out 5).trans rfl; have hcz7_6 : w6.cell? ⟨gb107, 6, none⟩ = some (.bool a0_6) := (blk_cell BK107.out 6).trans rfl; have hfz7_0 := blk_frozen BK107.out 0; have hfz7_1 := blk_frozen BK107.out 1; have hfz7_2 := blk_frozen BK107.out 2; have hfz7_3 := blk_frozen BK107.out 3; have hfz7_4 := blk_frozen BK107.out 4; have hfz7_5 := blk_frozen BK107.out 5; have hfz7_6 := blk_frozen BK107.out 6) | ((with_reducible refine gate_callee (f := 22) rfl ?_); refine goesL_ (some 7) rfl rfl Tryd.func22 (by kernel_rfl) rfl #[.agg #[.int .i64 a0_0, .int .i64 a0_1, .int .i64 a0_2, .int .i64 a0_3, .int .i64 a0_4, .int .i64 a0_5, .bool a0_6]] rfl (by (try simp only [List.map_toArray, List.map_cons, List.map_nil]); first | done | rfl | (simp only [List.length_drop, List.length_take]; rfl)) ?_; (with_reducible refine (bonus_Check.calls k a0_0 a0_1 a0_2 a0_3 a0_4 a0_5 a0_6 t108 _ A2.out).mono ?_); rintro e w8 ⟨rfl, hb⟩; refine ⟨_, rfl, ?_⟩; have n0_ := Aside0.mk (blk_below (g := gb107) (o := .cells #[.int .i64 a0_0, .int .i64 a0_1, .int .i64 a0_2, .int .i64 a0_3, .int .i64 a0_4, .int .i64 a0_5, .bool a0_6] 27 (0, 0)) (by (with_reducible repeat (first | refine blk_drewN ?_ _ | refine blk_drew ?_ | refine blk_alloc ?_ _)); exact BK107.out) hb); have n1_ := Aside0.mk (below_step (by repeat (first | (with_reducible first | exact HB.out | apply below_alloc | apply pw_below_drewN | apply below_drew1 | refine below_set ?_ GE107.out) | exact HB.out)) hb); clear BK107; clear HB; have BK107 := n0_; have HB := n1_; clear n0_ n1_; (try clear hb); (try clear hb2); (try clear hk); (try clear hi); have hcz9_0 : w8.cell? ⟨gb107, 0, none⟩ = some (.int .i64 a0_0) := (blk_cell BK107.out 0).trans rfl; have hcz9_1 : w8.cell? ⟨gb107, 1, none⟩ = some (.int .i64 a0_1) := (blk_cell BK107.out 1).trans rfl; have hcz9_2 : w8.cell? ⟨gb107, 2, none⟩ = some (.int .i64 a0_2) := (blk_cell BK107.out 2).trans rfl; have hcz9_3 : w8.cell? ⟨gb107, 3, none⟩ = some (.int .i64 a0_3) := (blk_cell BK107.out 3).trans rfl; have hcz9_4 : w8.cell? ⟨gb107, 4, none⟩ = some (.int .i64 a0_4) := (blk_cell BK107.out 4).trans rfl; have hcz9_5 : w8.cell? ⟨gb107, 5, none⟩ = some (.int .i64 a0_5) := (blk_cell BK107.out 5).trans rfl; have hcz9_6 : w8.cell? ⟨gb107, 6, none⟩ = some (.bool a0_6) := (blk_cell BK107.out 6).trans rfl; have hfz9_0 := blk_frozen BK107.out 0; have hfz9_1 := blk_frozen BK107.out 1; have hfz9_2 := blk_frozen BK107.out 2; have hfz9_3 := blk_frozen BK107.out 3; have hfz9_4 := blk_frozen BK107.out 4; have hfz9_5 := blk_frozen BK107.out 5; have hfz9_6 := blk_frozen BK107.out 6) | ((with_reducible refine gate_callee (f := 67) rfl ?_); refine goesL_ (some 12) rfl rfl Tryd.func67 (by kernel_rfl) rfl #[.agg #[.int .i64 a0_0, .int .i64 a0_1, .int .i64 a0_2, .int .i64 a0_3, .int .i64 a0_4, .int .i64 a0_5, .bool a0_6]] rfl (by (try simp only [List.map_toArray, List.map_cons, List.map_nil]); first | done | rfl | (simp only [List.length_drop, List.length_take]; rfl)) ?_; (with_reducible refine (bonus_of.calls a0_0 a0_1 a0_2 a0_3 a0_4 a0_5 a0_6 t109 t110 t111 t112 t113 t114 t115 t116 _ A4.out (by exact sig_below HS.out (by repeat (first | (with_reducible first | exact HB.out | apply below_alloc | apply pw_below_drewN | apply below_drew1 | refine below_set ?_ GE107.out) | exact HB.out)))).mono ?_); rintro e w10 ⟨rfl, hb⟩; refine ⟨_, rfl, ?_⟩; have n0_ := Aside0.mk (blk_below (g := gb107) (o := .cells #[.int .i64 a0_0, .int .i64 a0_1, .int .i64 a0_2, .int .i64 a0_3, .int .i64 a0_4, .int .i64 a0_5, .bool a0_6] 27 (0, 0)) (by (with_reducible repeat (first | refine blk_drewN ?_ _ | refine blk_drew ?_ | refine blk_alloc ?_ _)); exact BK107.out) hb); have n1_ := Aside0.mk (below_step (by repeat (first | (with_reducible first | exact HB.out | apply below_alloc | apply pw_below_drewN | apply below_drew1 | refine below_set ?_ GE107.out) | exact HB.out)) hb); clear BK107; clear HB; have BK107 := n0_; have HB := n1_; clear n0_ n1_; (try clear hb); (try clear hb2); (try clear hk); (try clear hi)) | ((with_reducible refine gate_dst (N := 5) rfl ?_); refine box_event ?hg (N := 5) ?hd (cs := #[.int .i64 0, .int .i64 0, .int .i64 0, .int .i64 0, .int .i64 0, .int .i64 0, .bool false, .int .i64 0]) (t := 113) ?hr ?_; (case hd => rfl); (case hg => rfl); (case hr => first | (go_simp; done) | (go_simp; rfl)); intro gb117 hg w11 hbox hb; have n0_ := Aside0.mk (blk_below (g := gb107) (o := .cells #[.int .i64 a0_0, .int .i64 a0_1, .int .i64 a0_2, .int .i64 a0_3, .int .i64 a0_4, .int .i64 a0_5, .bool a0_6] 27 (0, 0)) (by (with_reducible repeat (first | refine blk_drewN ?_ _ | refine blk_drew ?_ | refine blk_alloc ?_ _)); exact BK107.out) hb); have n1_ := Aside0.mk (below_step (by repeat (first | (with_reducible first | exact HB.out | apply below_alloc | apply pw_below_drewN | apply below_drew1 | refine below_set ?_ GE107.out) | exact HB.out)) hb); have n2_ := Aside0.mk (hbox); have n3_ := Aside0.mk ((by rw [hg]; exact (below_size (by repeat (first | (with_reducible first | exact HB.out | apply below_alloc | apply pw_below_drewN | apply below_drew1 | refine below_set ?_ GE107.out) | exact HB.out))) : w.heap.size ≤ gb117)); have n4_ := Aside0.mk ((by rw [hg]; exact (below_size (by repeat (first | (with_reducible first | exact HB.out | apply below_alloc | apply pw_below_drewN | apply below_drew1 | refine below_set ?_ GE107.out) | exact HB.out))) : w.heap.size ≤ gb117)); have n5_ := Aside0.mk ((by rw [hg]; exact Nat.ne_of_lt (blk_lt (g := gb107) (o := .cells #[.int .i64 a0_0, .int .i64 a0_1, .int .i64 a0_2, .int .i64 a0_3, .int .i64 a0_4, .int .i64 a0_5, .bool a0_6] 27 (0, 0)) (by (with_reducible repeat (first | refine blk_drewN ?_ _ | refine blk_drew ?_ | refine blk_alloc ?_ _)); exact BK107.out)) : gb107 ≠ gb117)); have n6_ := Aside0.mk ((by rw [hg]; exact Nat.ne_of_gt (blk_lt (g := gb107) (o := .cells #[.int .i64 a0_0, .int .i64 a0_1, .int .i64 a0_2, .int .i64 a0_3, .int .i64 a0_4, .int .i64 a0_5, .bool a0_6] 27 (0, 0)) (by (with_reducible repeat (first | refine blk_drewN ?_ _ | refine blk_drew ?_ | refine blk_alloc ?_ _)); exact BK107.out)) : gb117 ≠ gb107)); clear BK107; clear HB; have BK107 := n0_; have HB := n1_; have BK117 := n2_; have GW117 := n3_; have GE117 := n4_; have NB107_117 := n5_; have NB117_107 := n6_; clear n0_ n1_ n2_ n3_ n4_ n5_ n6_; clear hb hbox hg; have hnb12 := NB117_107.out; have hnc12 := NB107_117.out; have hcz13_0 : w11.cell? ⟨gb117, 0, none⟩ = some (.int .i64 0) := (blk_cell BK117.out 0).trans rfl; have hcz13_1 : w11.cell? ⟨gb117, 1, none⟩ = some (.int .i64 0) := (blk_cell BK117.out 1).trans rfl; have hcz13_2 : w11.cell? ⟨gb117, 2, none⟩ = some (.int .i64 0) := (blk_cell BK117.out 2).trans rfl; have hcz13_3 : w11.cell? ⟨gb117, 3, none⟩ = some (.int .i64 0) := (blk_cell BK117.out 3).trans rfl; have hcz13_4 : w11.cell? ⟨gb117, 4, none⟩ = some (.int .i64 0) := (blk_cell BK117.out 4).trans rfl; have hcz13_5 : w11.cell? ⟨gb117, 5, none⟩ = some (.int .i64 0) := (blk_cell BK117.out 5).trans rfl; have hcz13_6 : w11.cell? ⟨gb117, 6, none⟩ = some (.bool false) := (blk_cell BK117.out 6).trans rfl; have hcz13_7 : w11.cell? ⟨gb117, 7, none⟩ = some (.int .i64 0) := (blk_cell BK117.out 7).trans rfl; have hfz13_0 := blk_frozen BK117.out 0; have hfz13_1 := blk_frozen BK117.out 1; have hfz13_2 := blk_frozen BK117.out 2; have hfz13_3 := blk_frozen BK117.out 3; have hfz13_4 := blk_frozen BK117.out 4; have hfz13_5 := blk_frozen BK117.out 5; have hfz13_6 := blk_frozen BK117.out 6; have hfz13_7 := blk_frozen BK117.out 7))
    have n0_ : Aside0 (((((((((w11.setCell ⟨gb117, 0, none⟩ (.int .i64 t109)).setCell ⟨gb117, 1, none⟩ (.int .i64 t110)).setCell ⟨gb117, 2, none⟩ (.int .i64 t111)).setCell ⟨gb117, 3, none⟩ (.int .i64 t112)).setCell ⟨gb117, 4, none⟩ (.int .i64 t113)).setCell ⟨gb117, 5, none⟩ (.int .i64 t114)).setCell ⟨gb117, 6, none⟩ (.bool t115)).setCell ⟨gb117, 7, none⟩ (.int .i64 t116)).heap[gb107]? = some (.cells #[.int .i64 a0_0, .int .i64 a0_1, .int .i64 a0_2, .int .i64 a0_3, .int .i64 a0_4, .int .i64 a0_5, .bool a0_6] 27 (0, 0))) := ⟨by (with_reducible repeat (first | refine blk_drewN ?_ _ | refine blk_drew ?_ | refine blk_alloc ?_ _)); refine blk_far ?_ NB107_117.out _; (with_reducible repeat (first | refine blk_drewN ?_ _ | refine blk_drew ?_ | refine blk_alloc ?_ _)); refine blk_far ?_ NB107_117.out _; (with_reducible repeat (first | refine blk_drewN ?_ _ | refine blk_drew ?_ | refine blk_alloc ?_ _)); refine blk_far ?_ NB107_117.out _; (with_reducible repeat (first | refine blk_drewN ?_ _ | refine blk_drew ?_ | refine blk_alloc ?_ _)); refine blk_far ?_ NB107_117.out _; (with_reducible repeat (first | refine blk_drewN ?_ _ | refine blk_drew ?_ | refine blk_alloc ?_ _)); refine blk_far ?_ NB107_117.out _; (with_reducible repeat (first | refine blk_drewN ?_ _ | refine blk_drew ?_ | refine blk_alloc ?_ _)); refine blk_far ?_ NB107_117.out _; (with_reducible repeat (first | refine blk_drewN ?_ _ | refine blk_drew ?_ | refine blk_alloc ?_ _)); refine blk_far ?_ NB107_117.out _; (with_reducible repeat (first | refine blk_drewN ?_ _ | refine blk_drew ?_ | refine blk_alloc ?_ _)); refine blk_far ?_ NB107_117.out _; (with_reducible repeat (first | refine blk_drewN ?_ _ | refine blk_drew ?_ | refine blk_alloc ?_ _)); exact BK107.out⟩
    have n1_ : Aside0 (((((((((w11.setCell ⟨gb117, 0, none⟩ (.int .i64 t109)).setCell ⟨gb117, 1, none⟩ (.int .i64 t110)).setCell ⟨gb117, 2, none⟩ (.int .i64 t111)).setCell ⟨gb117, 3, none⟩ (.int .i64 t112)).setCell ⟨gb117, 4, none⟩ (.int .i64 t113)).setCell ⟨gb117, 5, none⟩ (.int .i64 t114)).setCell ⟨gb117, 6, none⟩ (.bool t115)).setCell ⟨gb117, 7, none⟩ (.int .i64 t116)).heap[gb117]? = some (.cells #[.int .i64 t109, .int .i64 t110, .int .i64 t111, .int .i64 t112, .int .i64 t113, .int .i64 t114, .bool t115, .int .i64 t116] 113 (0, 0))) := ⟨by (with_reducible repeat (first | refine blk_drewN ?_ _ | refine blk_drew ?_ | refine blk_alloc ?_ _)); refine blk_put (cs := #[.int .i64 t109, .int .i64 t110, .int .i64 t111, .int .i64 t112, .int .i64 t113, .int .i64 t114, .bool t115, .int .i64 0]) ?_ 7 _ rfl; (with_reducible repeat (first | refine blk_drewN ?_ _ | refine blk_drew ?_ | refine blk_alloc ?_ _)); refine blk_put (cs := #[.int .i64 t109, .int .i64 t110, .int .i64 t111, .int .i64 t112, .int .i64 t113, .int .i64 t114, .bool false, .int .i64 0]) ?_ 6 _ rfl; (with_reducible repeat (first | refine blk_drewN ?_ _ | refine blk_drew ?_ | refine blk_alloc ?_ _)); refine blk_put (cs := #[.int .i64 t109, .int .i64 t110, .int .i64 t111, .int .i64 t112, .int .i64 t113, .int .i64 0, .bool false, .int .i64 0]) ?_ 5 _ rfl; (with_reducible repeat (first | refine blk_drewN ?_ _ | refine blk_drew ?_ | refine blk_alloc ?_ _)); refine blk_put (cs := #[.int .i64 t109, .int .i64 t110, .int .i64 t111, .int .i64 t112, .int .i64 0, .int .i64 0, .bool false, .int .i64 0]) ?_ 4 _ rfl; (with_reducible repeat (first | refine blk_drewN ?_ _ | refine blk_drew ?_ | refine blk_alloc ?_ _)); refine blk_put (cs := #[.int .i64 t109, .int .i64 t110, .int .i64 t111, .int .i64 0, .int .i64 0, .int .i64 0, .bool false, .int .i64 0]) ?_ 3 _ rfl; (with_reducible repeat (first | refine blk_drewN ?_ _ | refine blk_drew ?_ | refine blk_alloc ?_ _)); refine blk_put (cs := #[.int .i64 t109, .int .i64 t110, .int .i64 0, .int .i64 0, .int .i64 0, .int .i64 0, .bool false, .int .i64 0]) ?_ 2 _ rfl; (with_reducible repeat (first | refine blk_drewN ?_ _ | refine blk_drew ?_ | refine blk_alloc ?_ _)); refine blk_put (cs := #[.int .i64 t109, .int .i64 0, .int .i64 0, .int .i64 0, .int .i64 0, .int .i64 0, .bool false, .int .i64 0]) ?_ 1 _ rfl; (with_reducible repeat (first | refine blk_drewN ?_ _ | refine blk_drew ?_ | refine blk_alloc ?_ _)); refine blk_put (cs := #[.int .i64 0, .int .i64 0, .int .i64 0, .int .i64 0, .int .i64 0, .int .i64 0, .bool false, .int .i64 0]) ?_ 0 _ rfl; (with_reducible repeat (first | refine blk_drewN ?_ _ | refine blk_drew ?_ | refine blk_alloc ?_ _)); exact BK117.out⟩
    have n2_ : Aside0 (Below w.heap.size w ((((((((w11.setCell ⟨gb117, 0, none⟩ (.int .i64 t109)).setCell ⟨gb117, 1, none⟩ (.int .i64 t110)).setCell ⟨gb117, 2, none⟩ (.int .i64 t111)).setCell ⟨gb117, 3, none⟩ (.int .i64 t112)).setCell ⟨gb117, 4, none⟩ (.int .i64 t113)).setCell ⟨gb117, 5, none⟩ (.int .i64 t114)).setCell ⟨gb117, 6, none⟩ (.bool t115)).setCell ⟨gb117, 7, none⟩ (.int .i64 t116))) := ⟨by repeat (first | (with_reducible first | exact HB.out | apply below_alloc | apply pw_below_drewN | apply below_drew1 | refine below_set ?_ GE107.out | refine below_set ?_ GE117.out) | exact HB.out)⟩
    (try clear BK107)
    (try clear BK117)
    (try clear HB)
    generalize ((((((((w11.setCell ⟨gb117, 0, none⟩ (.int .i64 t109)).setCell ⟨gb117, 1, none⟩ (.int .i64 t110)).setCell ⟨gb117, 2, none⟩ (.int .i64 t111)).setCell ⟨gb117, 3, none⟩ (.int .i64 t112)).setCell ⟨gb117, 4, none⟩ (.int .i64 t113)).setCell ⟨gb117, 5, none⟩ (.int .i64 t114)).setCell ⟨gb117, 6, none⟩ (.bool t115)).setCell ⟨gb117, 7, none⟩ (.int .i64 t116)) = w14 at n0_ n1_ n2_ ⊢
    have BK107 := n0_
    have BK117 := n1_
    have HB := n2_
    clear n0_ n1_ n2_
    have n0_ := Aside0.mk (blk_drew BK107.out)
    have n1_ := Aside0.mk (blk_drew BK117.out)
    have n2_ := Aside0.mk (below_drew1 HB.out)
    clear BK107
    clear BK117
    clear HB
    have BK107 := n0_
    have BK117 := n1_
    have HB := n2_
    clear n0_ n1_ n2_
    refine start_ (n := 13) (S := fun w' => w'.cell? ⟨gb117, 0, none⟩ = some (.int .i64 t109) ∧ w'.cell? ⟨gb117, 1, none⟩ = some (.int .i64 t110) ∧ w'.cell? ⟨gb117, 2, none⟩ = some (.int .i64 t111) ∧ w'.cell? ⟨gb117, 3, none⟩ = some (.int .i64 t112) ∧ w'.cell? ⟨gb117, 4, none⟩ = some (.int .i64 t113) ∧ w'.cell? ⟨gb117, 5, none⟩ = some (.int .i64 t114) ∧ w'.cell? ⟨gb117, 6, none⟩ = some (.bool t115) ∧ w'.cell? ⟨gb117, 7, none⟩ = some (.int .i64 t116)) (ds := []) #[false, false, false, false, false, false, false, false, false, false, false, false, false] (by kernel_rfl) rfl rfl ⟨(blk_cell BK117.out 0).trans rfl, (blk_cell BK117.out 1).trans rfl, (blk_cell BK117.out 2).trans rfl, (blk_cell BK117.out 3).trans rfl, (blk_cell BK117.out 4).trans rfl, (blk_cell BK117.out 5).trans rfl, (blk_cell BK117.out 6).trans rfl, (blk_cell BK117.out 7).trans rfl⟩ (fun hHeld => ?_); refine with_tabW bonus_Virtual.tab5 bonus_Virtual.bits5 (fun HT_ HW_ => ?_)
    generalize w14.drew = w15 at BK107 BK117 HB hHeld ⊢
    refine pure_ (i := 1) (N := some 14) (v := ?_) (a' := ?_) #[false, true, false, false, false, false, false, false, false, false, false, false, false] rfl rfl (any_of HT_.out (by kernel_rfl)) (fun _ _ _ h => h) (Or.inl ⟨by rfl, ?_⟩) ?_ ?_
    rotate_left
    · intro w'
      go_simp
      with_reducible rfl
    rotate_left
    · simp only [Act.put, List.setIfInBounds_toArray, List.set_cons_zero, List.set_cons_succ, i64_w, i32_w]
      rfl
    refine pure_ (i := 4) (N := some 17) (v := ?_) (a' := ?_) #[false, true, false, false, true, false, false, false, false, false, false, false, false] rfl rfl (any_of HT_.out (by kernel_rfl)) (fun _ _ _ h => h) (Or.inl ⟨by rfl, ?_⟩) ?_ ?_
    rotate_left
    · intro w'
      go_simp
      with_reducible rfl
    rotate_left
    · simp only [Act.put, List.setIfInBounds_toArray, List.set_cons_zero, List.set_cons_succ, i64_w, i32_w]
      rfl
    refine pure_ (i := 6) (N := some 19) (v := ?_) (a' := ?_) #[false, true, false, false, true, false, true, false, false, false, false, false, false] rfl rfl (any_of HT_.out (by kernel_rfl)) (fun _ _ _ h => h) (Or.inl ⟨by rfl, ?_⟩) ?_ ?_
    rotate_left
    · intro w'
      go_simp
      with_reducible rfl
    rotate_left
    · simp only [Act.put, List.setIfInBounds_toArray, List.set_cons_zero, List.set_cons_succ, i64_w, i32_w]
      rfl
    refine pure_ (i := 7) (N := some 20) (v := ?_) (a' := ?_) #[false, true, false, false, true, false, true, true, false, false, false, false, false] rfl rfl (any_of HT_.out (by kernel_rfl)) (fun _ _ _ h => h) (Or.inl ⟨by rfl, ?_⟩) ?_ ?_
    rotate_left
    · intro w'
      go_simp
      with_reducible rfl
    rotate_left
    · simp only [Act.put, List.setIfInBounds_toArray, List.set_cons_zero, List.set_cons_succ, i64_w, i32_w]
      rfl
    refine take_ (i := 0) (N := some 13) (v := ?_) (a' := ?_) #[true, true, false, false, true, false, true, true, false, false, false, false, false] rfl rfl (take_ofW HT_.out HW_.out (by kernel_rfl)) (fun _ _ _ h => h) (Or.inl ⟨by rfl, ?_⟩) hHeld ?_ ?_
    rotate_left
    · rintro w' ⟨s0, s1, s2, s3, s4, s5, s6, s7⟩
      go_simp
      with_reducible rfl
    rotate_left
    · simp only [Act.put, List.setIfInBounds_toArray, List.set_cons_zero, List.set_cons_succ, i64_w, i32_w]
      rfl
    refine take_ (i := 2) (N := some 15) (v := ?_) (a' := ?_) #[true, true, true, false, true, false, true, true, false, false, false, false, false] rfl rfl (take_ofW HT_.out HW_.out (by kernel_rfl)) (fun _ _ _ h => h) (Or.inl ⟨by rfl, ?_⟩) hHeld ?_ ?_
    rotate_left
    · rintro w' ⟨s0, s1, s2, s3, s4, s5, s6, s7⟩
      go_simp
      with_reducible rfl
    rotate_left
    · simp only [Act.put, List.setIfInBounds_toArray, List.set_cons_zero, List.set_cons_succ, i64_w, i32_w]
      rfl
    refine take_ (i := 5) (N := some 18) (v := ?_) (a' := ?_) #[true, true, true, false, true, true, true, true, false, false, false, false, false] rfl rfl (take_ofW HT_.out HW_.out (by kernel_rfl)) (fun _ _ _ h => h) (Or.inl ⟨by rfl, ?_⟩) hHeld ?_ ?_
    rotate_left
    · rintro w' ⟨s0, s1, s2, s3, s4, s5, s6, s7⟩
      go_simp
      with_reducible rfl
    rotate_left
    · simp only [Act.put, List.setIfInBounds_toArray, List.set_cons_zero, List.set_cons_succ, i64_w, i32_w]
      rfl
    refine take_ (i := 8) (N := some 21) (v := ?_) (a' := ?_) #[true, true, true, false, true, true, true, true, true, false, false, false, false] rfl rfl (take_ofW HT_.out HW_.out (by kernel_rfl)) (fun _ _ _ h => h) (Or.inl ⟨by rfl, ?_⟩) hHeld ?_ ?_
    rotate_left
    · rintro w' ⟨s0, s1, s2, s3, s4, s5, s6, s7⟩
      go_simp
      with_reducible rfl
    rotate_left
    · simp only [Act.put, List.setIfInBounds_toArray, List.set_cons_zero, List.set_cons_succ, i64_w, i32_w]
      rfl
    refine pure_ (i := 9) (N := some 22) (v := ?_) (a' := ?_) #[true, true, true, false, true, true, true, true, true, true, false, false, false] rfl rfl (any_of HT_.out (by kernel_rfl)) (fun _ _ _ h => h) (Or.inl ⟨by rfl, ?_⟩) ?_ ?_
    rotate_left
    · intro w'
      go_simp
      with_reducible rfl
    rotate_left
    · simp only [Act.put, List.setIfInBounds_toArray, List.set_cons_zero, List.set_cons_succ, i64_w, i32_w]
      rfl
    refine one_ (i := 3) (N := some 16) #[true, true, true, true, true, true, true, true, true, true, false, false, false] rfl rfl (one_of HT_.out (by kernel_rfl)) (by decide) (fun K hK => ?_)
    refine goes_ Tryd.func68 (by kernel_rfl) rfl #[.agg #[.int .i64 t109, .int .i64 t110, .int .i64 t111, .int .i64 t112, .int .i64 t113, .int .i64 t114, .bool t115, .int .i64 t116], .int .i64 t116] (by rfl) rfl rfl (by (try simp only [List.map_toArray, List.map_cons, List.map_nil]); first | done | rfl | (simp only [List.length_drop, List.length_take]; rfl)) ?_
    with_reducible refine (bonus_condition_end.calls t109 t110 t111 t112 t113 t114 t115 t116 t116 t118 _ A5.out).mono ?_
    rintro e w16 ⟨rfl, hb⟩
    refine ⟨_, rfl, ?_⟩
    have n0_ := Aside0.mk (blk_below (g := gb107) (o := .cells #[.int .i64 a0_0, .int .i64 a0_1, .int .i64 a0_2, .int .i64 a0_3, .int .i64 a0_4, .int .i64 a0_5, .bool a0_6] 27 (0, 0)) (by (with_reducible repeat (first | refine blk_drewN ?_ _ | refine blk_drew ?_ | refine blk_alloc ?_ _)); exact BK107.out) hb)
    have n1_ := Aside0.mk (blk_below (g := gb117) (o := .cells #[.int .i64 t109, .int .i64 t110, .int .i64 t111, .int .i64 t112, .int .i64 t113, .int .i64 t114, .bool t115, .int .i64 t116] 113 (0, 0)) (by (with_reducible repeat (first | refine blk_drewN ?_ _ | refine blk_drew ?_ | refine blk_alloc ?_ _)); exact BK117.out) hb)
    have n2_ := Aside0.mk (below_step (by repeat (first | (with_reducible first | exact HB.out | apply below_alloc | apply pw_below_drewN | apply below_drew1 | refine below_set ?_ GE107.out | refine below_set ?_ GE117.out) | exact HB.out)) hb)
    clear BK107
    clear BK117
    clear HB
    have BK107 := n0_
    have BK117 := n1_
    have HB := n2_
    clear n0_ n1_ n2_
    (try clear hb)
    (try clear hb2)
    (try clear hk)
    (try clear hi)
    refine hK.out _ _ ⟨(blk_cell BK117.out 0).trans rfl, (blk_cell BK117.out 1).trans rfl, (blk_cell BK117.out 2).trans rfl, (blk_cell BK117.out 3).trans rfl, (blk_cell BK117.out 4).trans rfl, (blk_cell BK117.out 5).trans rfl, (blk_cell BK117.out 6).trans rfl, (blk_cell BK117.out 7).trans rfl⟩ (fun hHeld => ?_)
    clear hK K
    refine norm_ (a' := ?_) ?_ ?_
    rotate_left
    · show Act.put _ (some 16) _ = _
      simp only [Act.put, List.setIfInBounds_toArray, List.set_cons_zero, List.set_cons_succ, i64_w, i32_w]
      rfl
    refine pure_ (i := 10) (N := some 23) (v := ?_) (a' := ?_) #[true, true, true, true, true, true, true, true, true, true, true, false, false] rfl rfl (any_of HT_.out (by kernel_rfl)) (fun _ _ _ h => h) (Or.inl ⟨by rfl, ?_⟩) ?_ ?_
    rotate_left
    · intro w'
      go_simp
      with_reducible rfl
    rotate_left
    · simp only [Act.put, List.setIfInBounds_toArray, List.set_cons_zero, List.set_cons_succ, i64_w, i32_w]
      rfl
    refine pure_ (i := 11) (N := some 2) (v := ?_) (a' := ?_) #[true, true, true, true, true, true, true, true, true, true, true, true, false] rfl rfl (any_of HT_.out (by kernel_rfl)) (fun _ _ _ h => h) (Or.inl ⟨by rfl, ?_⟩) ?_ ?_
    rotate_left
    · intro w'
      go_simp
      with_reducible rfl
    rotate_left
    · simp only [Act.put, List.setIfInBounds_toArray, List.set_cons_zero, List.set_cons_succ, i64_w, i32_w]
      rfl
    refine pure_ (i := 12) (N := some 3) (v := ?_) (a' := ?_) #[true, true, true, true, true, true, true, true, true, true, true, true, true] rfl rfl (any_of HT_.out (by kernel_rfl)) (fun _ _ _ h => h) (Or.inl ⟨by rfl, ?_⟩) ?_ ?_
    rotate_left
    · intro w'
      go_simp
      with_reducible rfl
    rotate_left
    · simp only [Act.put, List.setIfInBounds_toArray, List.set_cons_zero, List.set_cons_succ, i64_w, i32_w]
      rfl
    refine done_ (done_of HT_.out (by kernel_rfl)) ?_
    try go_wp2
    go_ret2
    exact ⟨by first | rfl | (simp [errW_none, errW_some] <;> rfl) | (simp [*, errW_none, errW_some] <;> rfl), by repeat (first | (with_reducible first | exact HB.out | apply below_alloc | apply pw_below_drewN | apply below_drew1 | refine below_set ?_ GE107.out | refine below_set ?_ GE117.out) | exact HB.out)⟩
  · rw [if_neg c3] at H
    have c3b0 : (t108 == 0) = false := beq_eq_false_iff_ne.mpr c3
    have c3b1 : (t108 != 0) = true := bne_iff_ne.mpr c3
    simp only [Option.some.injEq, Prod.mk.injEq] at H
    obtain ⟨rfl, rfl⟩ := H
    go_enter Tryd.func18, Tryd.ntmps18
    go_wp2_with (first | ((with_reducible refine gate_dst (N := 1) rfl ?_); refine box_event ?hg (N := 1) ?hd (cs := #[.int .i64 a0_0, .int .i64 a0_1, .int .i64 a0_2, .int .i64 a0_3, .int .i64 a0_4, .int .i64 a0_5, .bool a0_6]) (t := 27) ?hr ?_; (case hd => rfl); (case hg => rfl); (case hr => first | (go_simp; done) | (go_simp; rfl)); intro gb107 hg w17 hbox hb; have n0_ := Aside0.mk (below_step (by repeat (first | (with_reducible first | exact HB.out | apply below_alloc | apply pw_below_drewN | apply below_drew1) | exact HB.out)) hb); have n1_ := Aside0.mk (hbox); have n2_ := Aside0.mk ((by rw [hg]; exact (below_size (by repeat (first | (with_reducible first | exact HB.out | apply below_alloc | apply pw_below_drewN | apply below_drew1) | exact HB.out))) : w.heap.size ≤ gb107)); have n3_ := Aside0.mk ((by rw [hg]; exact (below_size (by repeat (first | (with_reducible first | exact HB.out | apply below_alloc | apply pw_below_drewN | apply below_drew1) | exact HB.out))) : w.heap.size ≤ gb107)); clear HB; have HB := n0_; have BK107 := n1_; have GW107 := n2_; have GE107 := n3_; clear n0_ n1_ n2_ n3_; clear hb hbox hg; have hcz18_0 : w17.cell? ⟨gb107, 0, none⟩ = some (.int .i64 a0_0) := (blk_cell BK107.out 0).trans rfl; have hcz18_1 : w17.cell? ⟨gb107, 1, none⟩ = some (.int .i64 a0_1) := (blk_cell BK107.out 1).trans rfl; have hcz18_2 : w17.cell? ⟨gb107, 2, none⟩ = some (.int .i64 a0_2) := (blk_cell BK107.out 2).trans rfl; have hcz18_3 : w17.cell? ⟨gb107, 3, none⟩ = some (.int .i64 a0_3) := (blk_cell BK107.out 3).trans rfl; have hcz18_4 : w17.cell? ⟨gb107, 4, none⟩ = some (.int .i64 a0_4) := (blk_cell BK107.out 4).trans rfl; have hcz18_5 : w17.cell? ⟨gb107, 5, none⟩ = some (.int .i64 a0_5) := (blk_cell BK107.out 5).trans rfl; have hcz18_6 : w17.cell? ⟨gb107, 6, none⟩ = some (.bool a0_6) := (blk_cell BK107.out 6).trans rfl; have hfz18_0 := blk_frozen BK107.out 0; have hfz18_1 := blk_frozen BK107.out 1; have hfz18_2 := blk_frozen BK107.out 2; have hfz18_3 := blk_frozen BK107.out 3; have hfz18_4 := blk_frozen BK107.out 4; have hfz18_5 := blk_frozen BK107.out 5; have hfz18_6 := blk_frozen BK107.out 6) | ((with_reducible refine gate_callee (f := 22) rfl ?_); refine goesL_ (some 7) rfl rfl Tryd.func22 (by kernel_rfl) rfl #[.agg #[.int .i64 a0_0, .int .i64 a0_1, .int .i64 a0_2, .int .i64 a0_3, .int .i64 a0_4, .int .i64 a0_5, .bool a0_6]] rfl (by (try simp only [List.map_toArray, List.map_cons, List.map_nil]); first | done | rfl | (simp only [List.length_drop, List.length_take]; rfl)) ?_; (with_reducible refine (bonus_Check.calls k a0_0 a0_1 a0_2 a0_3 a0_4 a0_5 a0_6 t108 _ A2.out).mono ?_); rintro e w19 ⟨rfl, hb⟩; refine ⟨_, rfl, ?_⟩; have n0_ := Aside0.mk (blk_below (g := gb107) (o := .cells #[.int .i64 a0_0, .int .i64 a0_1, .int .i64 a0_2, .int .i64 a0_3, .int .i64 a0_4, .int .i64 a0_5, .bool a0_6] 27 (0, 0)) (by (with_reducible repeat (first | refine blk_drewN ?_ _ | refine blk_drew ?_ | refine blk_alloc ?_ _)); exact BK107.out) hb); have n1_ := Aside0.mk (below_step (by repeat (first | (with_reducible first | exact HB.out | apply below_alloc | apply pw_below_drewN | apply below_drew1 | refine below_set ?_ GE107.out) | exact HB.out)) hb); clear BK107; clear HB; have BK107 := n0_; have HB := n1_; clear n0_ n1_; (try clear hb); (try clear hb2); (try clear hk); (try clear hi)))
    go_ret2
    exact ⟨by first | rfl | (simp [errW_none, errW_some] <;> rfl) | (simp [*, errW_none, errW_some] <;> rfl), by repeat (first | (with_reducible first | exact HB.out | apply below_alloc | apply pw_below_drewN | apply below_drew1 | refine below_set ?_ GE107.out) | exact HB.out)⟩
end Go.Proofs.YtjemaonejkepcaaDoor.B
namespace Go.Proofs.YtjemaonejkepcaaDoor.B
open Go.RowKit
theorem w64 {n : Int} (h : -1000000000000 ≤ n ∧ n ≤ 1000000000000) : wrap64 n = n := by unfold wrap64; omega
theorem bin (a : Int) : bonus_in.f a = some (decide (-100000 ≤ a ∧ a ≤ 100000)) := by
  unfold bonus_in.f
  by_cases h : a ≥ -100000
  · rw [if_pos h]; simp; omega
  · rw [if_neg h]; simp; omega
theorem bsz (a : Int) : bonus_size.f a = some (decide (1 ≤ a ∧ a ≤ 100000)) := by
  unfold bonus_size.f
  by_cases h : a ≥ 1
  · rw [if_pos h]; simp; omega
  · rw [if_neg h]; simp; omega
/-- The number of a target's error. -/
def chk (x y lo hi tol mat : Int) (pin : Bool) : Int :=
  if (-100000 ≤ x ∧ x ≤ 100000) ∧ (-100000 ≤ y ∧ y ≤ 100000) ∧ (1 ≤ lo ∧ lo ≤ 100000) ∧ (1 ≤ hi ∧ hi ≤ 100000) then
    if hi < lo then 9 else if tol < 0 ∨ 100000 < tol ∨ (pin = false ∧ lo ≤ tol) then 2 else if mat < 0 ∨ 2 < mat then 1 else 0
  else 2
theorem bcheck (k : Nat) (hk : 3 ≤ k) (x y lo hi tol mat : Int) (pin : Bool) : bonus_Check.f k x y lo hi tol mat pin = some (chk x y lo hi tol mat pin) := by
  obtain ⟨k, rfl⟩ : ∃ m, k = m + 3 := ⟨k - 3, by omega⟩
  unfold bonus_Check.f chk
  simp only [bin, bsz, Option.bind_some, decide_eq_true_eq]
  by_cases h1 : -100000 ≤ x ∧ x ≤ 100000
  · by_cases h2 : -100000 ≤ y ∧ y ≤ 100000
    · by_cases h3 : 1 ≤ lo ∧ lo ≤ 100000
      · by_cases h4 : 1 ≤ hi ∧ hi ≤ 100000
        · rw [if_pos h1, if_pos h2, if_pos h3, if_pos ⟨h1, h2, h3, h4⟩]
          simp only [bonus_Check.j0, bonus_Check.j1, decide_eq_true h4]
          cases pin <;> repeat' (first | rfl | (split <;> try (simp_all; done)) | omega | (exfalso; simp_all; omega))
        · rw [if_pos h1, if_pos h2, if_pos h3, if_neg (fun h => h4 h.2.2.2)]
          simp only [bonus_Check.j0, decide_eq_false h4]; simp
      · rw [if_pos h1, if_pos h2, if_neg h3, if_neg (fun h => h3 h.2.2.1)]; simp [bonus_Check.j0]
    · rw [if_pos h1, if_neg h2, if_neg (fun h => h2 h.2.1)]; simp [bonus_Check.j0]
  · rw [if_neg h1, if_neg (fun h => h1 h.1)]; simp [bonus_Check.j0]
/-- A right target. -/
def Okt (x y lo hi tol mat : Int) (pin : Bool) : Prop :=
  (-100000 ≤ x ∧ x ≤ 100000) ∧ (-100000 ≤ y ∧ y ≤ 100000) ∧ 1 ≤ lo ∧ lo ≤ hi ∧ hi ≤ 100000 ∧ 0 ≤ tol ∧ tol ≤ 100000 ∧ (pin = false → tol < lo) ∧ 0 ≤ mat ∧ mat ≤ 2
theorem chk_ok {x y lo hi tol mat : Int} {pin : Bool} : chk x y lo hi tol mat pin = 0 ↔ Okt x y lo hi tol mat pin := by
  unfold chk Okt
  by_cases h : (-100000 ≤ x ∧ x ≤ 100000) ∧ (-100000 ≤ y ∧ y ≤ 100000) ∧ (1 ≤ lo ∧ lo ≤ 100000) ∧ (1 ≤ hi ∧ hi ≤ 100000)
  · rw [if_pos h]
    by_cases h1 : hi < lo
    · rw [if_pos h1]; constructor
      · intro h; omega
      · intro h; omega
    · rw [if_neg h1]
      by_cases h2 : tol < 0 ∨ 100000 < tol ∨ (pin = false ∧ lo ≤ tol)
      · rw [if_pos h2]; constructor
        · intro h; omega
        · rintro ⟨_, _, _, _, _, ha, hb, hc, _⟩
          rcases h2 with h2 | h2 | ⟨e, h2⟩
          · omega
          · omega
          · have := hc e; omega
      · rw [if_neg h2]
        by_cases h3 : mat < 0 ∨ 2 < mat
        · rw [if_pos h3]; constructor
          · intro h; omega
          · intro h; omega
        · rw [if_neg h3]
          refine ⟨fun _ => ⟨h.1, h.2.1, by omega, by omega, by omega, by omega, by omega, fun e => ?_, by omega, by omega⟩, fun _ => rfl⟩
          rcases Int.lt_or_le tol lo with hl | hl
          · exact hl
          · exact absurd (Or.inr (Or.inr ⟨e, hl⟩)) h2
  · rw [if_neg h]; constructor
    · intro h; omega
    · intro h; omega
theorem sgn_eq (mat : Int) (pin : Bool) : sgn mat pin = if ((mat == 2) == pin) = true then -1 else 1 := by
  unfold sgn
  by_cases h : mat = 2 <;> cases pin <;> simp [h]
theorem bof {x y lo hi tol mat : Int} {pin : Bool} (h0 : 0 ≤ mat) (h2 : mat ≤ 2) : bonus_of.f x y lo hi tol mat pin = some (x, y, lo, hi, tol, mat, pin, sgn mat pin) := by
  unfold bonus_of.f; rw [if_pos ⟨h0, h2⟩]
/-- The virtual size, the resultant one, the bonus. -/
def vir (lo hi tol mat : Int) (pin : Bool) : Int := if ((mat == 2) == pin) = true then lo - tol else hi + tol
theorem virtual_bad (k : Nat) (hk : 3 ≤ k) {x y lo hi tol mat : Int} {pin : Bool} (h : chk x y lo hi tol mat pin ≠ 0) : bonus_Virtual.f k x y lo hi tol mat pin = some (0, chk x y lo hi tol mat pin) := by
  unfold bonus_Virtual.f; rw [bcheck k hk]; simp only [Option.bind_some]; rw [if_neg h]
theorem virtual_ok (k : Nat) (hk : 3 ≤ k) {x y lo hi tol mat : Int} {pin : Bool} (h : Okt x y lo hi tol mat pin) : bonus_Virtual.f k x y lo hi tol mat pin = some (vir lo hi tol mat pin, 0) := by
  unfold bonus_Virtual.f vir
  rw [bcheck k hk]; simp only [Option.bind_some]; rw [if_pos (chk_ok.2 h)]
  obtain ⟨_, _, h1, h2, h3, h4, h5, _, h6, h7⟩ := h
  rw [bof h6 h7]; simp only [Option.bind_some, bonus_condition_end.f, sgn_eq]
  split <;> simp
  · rw [w64 (n := -tol) (by omega), w64 (by omega)]; omega
  · rw [w64 (n := tol) (by omega), w64 (by omega)]
end Go.Proofs.YtjemaonejkepcaaDoor.B
namespace Go.Proofs.YtjemaonejkepcaaDoor.G
open Go.Proofs.YtjemaonejkepcaaDoor.B
open Go.RowKit Go.Proofs.YtjemaonejkepcaaDoorW.PrintWords Go.Proofs.YtjemaonejkepcaaDoorW.PrintLast Go.Proofs.YtjemaonejkepcaaDoorW.PrintMore
attribute [local go_sem] max2_int min2_int max_two min_two max_three min_three max_four min_four   -- for this text's walks alone
set_option linter.unusedVariables false
set_option linter.unusedSimpArgs false
def errW : Option Int → Value
  | none => .nilIface
  | some c => .iface 0 (.int .i64 c)
theorem errW_none : errW none = .nilIface := rfl
theorem errW_some (c : Int) : errW (some c) = .iface 0 (.int .i64 c) := rfl
theorem info3 : (Tryd.prog.info? 3).map (fun i => (i.zero, i.size, i.bytes)) = some (some (.int .i64 0), 1, 8) := by kernel_rfl
theorem info4 : (Tryd.prog.info? 4).map (fun i => (i.zero, i.size, i.bytes)) = some (some (.bool false), 1, 1) := by kernel_rfl
theorem info25 : (Tryd.prog.info? 25).map (fun i => (i.zero, i.size, i.bytes)) = some (some (.agg #[(.int .i64 0), (.int .i64 0)]), 2, 16) := by kernel_rfl
theorem info56 : (Tryd.prog.info? 56).map (fun i => (i.zero, i.size, i.bytes)) = some (some (.agg #[(.int .i64 0), (.int .i64 0), (.bool false), (.int .i64 0)]), 4, 32) := by kernel_rfl
theorem info104 : (Tryd.prog.info? 104).map (fun i => (i.zero, i.size, i.bytes)) = some (some (.agg #[(.int .i64 0), (.int .i64 0), (.bool false), (.int .i64 0), (.int .i64 0)]), 5, 40) := by kernel_rfl
structure S23 where
  f0 : Int
  f1 : Int
def z23 : S23 := ⟨(0 : Int), (0 : Int)⟩
def k23 : Kd S23 := Kd.iso (Kd.pair (Kd.int .i64) (Kd.int .i64)) (fun x : S23 => (x.f0, x.f1))
theorem k23_open {w : World} {x : S23} {cs : List Value} (h : k23.K w x cs) : cs = [.int .i64 x.f0, .int .i64 x.f1] := by
  obtain ⟨_, _, rfl, rfl, rfl⟩ := h
  exact rfl
theorem k23_openM {w : World} {base : Nat} {ok : Nat → Prop} {x : S23} {cs : List Value} (h : k23.M w base ok x cs) : cs = [.int .i64 x.f0, .int .i64 x.f1] := by
  obtain ⟨_, _, rfl, rfl, rfl⟩ := h
  exact rfl
theorem k23_mk (w : World) (x : S23)  : k23.K w x [.int .i64 x.f0, .int .i64 x.f1] := ⟨[.int .i64 x.f0], [.int .i64 x.f1], rfl, rfl, rfl⟩
theorem k23_mkM (w : World) (base : Nat) (ok : Nat → Prop) (x : S23)  : k23.M w base ok x [.int .i64 x.f0, .int .i64 x.f1] := ⟨[.int .i64 x.f0], [.int .i64 x.f1], rfl, rfl, rfl⟩
structure S25 where
  f0 : Int
  f1 : Int
def z25 : S25 := ⟨(0 : Int), (0 : Int)⟩
def k25 : Kd S25 := Kd.iso (Kd.pair (Kd.int .i64) (Kd.int .i64)) (fun x : S25 => (x.f0, x.f1))
theorem k25_open {w : World} {x : S25} {cs : List Value} (h : k25.K w x cs) : cs = [.int .i64 x.f0, .int .i64 x.f1] := by
  obtain ⟨_, _, rfl, rfl, rfl⟩ := h
  exact rfl
theorem k25_mk (w : World) (x : S25)  : k25.K w x [.int .i64 x.f0, .int .i64 x.f1] := ⟨[.int .i64 x.f0], [.int .i64 x.f1], rfl, rfl, rfl⟩
theorem k25_mkM (w : World) (base : Nat) (ok : Nat → Prop) (x : S25)  : k25.M w base ok x [.int .i64 x.f0, .int .i64 x.f1] := ⟨[.int .i64 x.f0], [.int .i64 x.f1], rfl, rfl, rfl⟩
def rd_T25 (xs : List S25) (i : Int) : S25 := xs.getD i.toNat z25
theorem at_T25 {w : World} {A : Option Addr} {n : Nat} {xs : List S25} (h : Kd.C k25 w A n xs) (i : Int) (h0 : 0 ≤ i) (h1 : i < n) : ∃ ad , A = some ad ∧ w.cell? (ad.add (i.toNat * 2)) = some (.int .i64 (rd_T25 xs i).f0) ∧ w.cell? ⟨(ad.add (i.toNat * 2)).block, (ad.add (i.toNat * 2)).off + 1, none⟩ = some (.int .i64 (rd_T25 xs i).f1) := by
  obtain ⟨ad, c, e, _, hK, hc0⟩ := Kd.C_get h z25 i h0 h1
  have hc : ∀ j u, c[j]? = some u → w.cell? (ad.add (i.toNat * 2 + j)) = some u := hc0
  obtain rfl := k25_open hK
  exact ⟨ad, e, hc 0 _ rfl, by rw [← add_field _ _ 1 (by omega)]; exact hc 1 _ rfl⟩
structure S27 where
  f0 : S23
  f1 : S25
  f2 : Int
  f3 : Int
  f4 : Bool
def z27 : S27 := ⟨z23, z25, (0 : Int), (0 : Int), false⟩
def k27 : Kd S27 := Kd.iso (Kd.pair k23 (Kd.pair k25 (Kd.pair (Kd.int .i64) (Kd.pair (Kd.int .i64) Kd.bool)))) (fun x : S27 => (x.f0, x.f1, x.f2, x.f3, x.f4))
theorem k27_open {w : World} {x : S27} {cs : List Value} (h : k27.K w x cs) : cs = [.int .i64 x.f0.f0, .int .i64 x.f0.f1, .int .i64 x.f1.f0, .int .i64 x.f1.f1, .int .i64 x.f2, .int .i64 x.f3, .bool x.f4] := by
  obtain ⟨_, _, rfl, s0, ⟨_, _, rfl, s2, ⟨_, _, rfl, rfl, ⟨_, _, rfl, rfl, rfl⟩⟩⟩⟩ := h
  obtain rfl := k23_open s0
  obtain rfl := k25_open s2
  exact rfl
theorem k27_mk (w : World) (x : S27)  : k27.K w x [.int .i64 x.f0.f0, .int .i64 x.f0.f1, .int .i64 x.f1.f0, .int .i64 x.f1.f1, .int .i64 x.f2, .int .i64 x.f3, .bool x.f4] := ⟨[.int .i64 x.f0.f0, .int .i64 x.f0.f1], [.int .i64 x.f1.f0, .int .i64 x.f1.f1, .int .i64 x.f2, .int .i64 x.f3, .bool x.f4], rfl, (k23_mk w x.f0 ), ⟨[.int .i64 x.f1.f0, .int .i64 x.f1.f1], [.int .i64 x.f2, .int .i64 x.f3, .bool x.f4], rfl, (k25_mk w x.f1 ), ⟨[.int .i64 x.f2], [.int .i64 x.f3, .bool x.f4], rfl, rfl, ⟨[.int .i64 x.f3], [.bool x.f4], rfl, rfl, rfl⟩⟩⟩⟩
theorem k27_mkM (w : World) (base : Nat) (ok : Nat → Prop) (x : S27)  : k27.M w base ok x [.int .i64 x.f0.f0, .int .i64 x.f0.f1, .int .i64 x.f1.f0, .int .i64 x.f1.f1, .int .i64 x.f2, .int .i64 x.f3, .bool x.f4] := ⟨[.int .i64 x.f0.f0, .int .i64 x.f0.f1], [.int .i64 x.f1.f0, .int .i64 x.f1.f1, .int .i64 x.f2, .int .i64 x.f3, .bool x.f4], rfl, (k23_mkM w base ok x.f0 ), ⟨[.int .i64 x.f1.f0, .int .i64 x.f1.f1], [.int .i64 x.f2, .int .i64 x.f3, .bool x.f4], rfl, (k25_mkM w base ok x.f1 ), ⟨[.int .i64 x.f2], [.int .i64 x.f3, .bool x.f4], rfl, rfl, ⟨[.int .i64 x.f3], [.bool x.f4], rfl, rfl, rfl⟩⟩⟩⟩
def rd_T27 (xs : List S27) (i : Int) : S27 := xs.getD i.toNat z27
theorem at_T27 {w : World} {A : Option Addr} {n : Nat} {xs : List S27} (h : Kd.C k27 w A n xs) (i : Int) (h0 : 0 ≤ i) (h1 : i < n) : ∃ ad , A = some ad ∧ w.cell? (ad.add (i.toNat * 7)) = some (.int .i64 (rd_T27 xs i).f0.f0) ∧ w.cell? ⟨(ad.add (i.toNat * 7)).block, (ad.add (i.toNat * 7)).off + 1, none⟩ = some (.int .i64 (rd_T27 xs i).f0.f1) ∧ w.cell? ⟨(ad.add (i.toNat * 7)).block, (ad.add (i.toNat * 7)).off + 2, none⟩ = some (.int .i64 (rd_T27 xs i).f1.f0) ∧ w.cell? ⟨(ad.add (i.toNat * 7)).block, (ad.add (i.toNat * 7)).off + 3, none⟩ = some (.int .i64 (rd_T27 xs i).f1.f1) ∧ w.cell? ⟨(ad.add (i.toNat * 7)).block, (ad.add (i.toNat * 7)).off + 4, none⟩ = some (.int .i64 (rd_T27 xs i).f2) ∧ w.cell? ⟨(ad.add (i.toNat * 7)).block, (ad.add (i.toNat * 7)).off + 5, none⟩ = some (.int .i64 (rd_T27 xs i).f3) ∧ w.cell? ⟨(ad.add (i.toNat * 7)).block, (ad.add (i.toNat * 7)).off + 6, none⟩ = some (.bool (rd_T27 xs i).f4) := by
  obtain ⟨ad, c, e, _, hK, hc0⟩ := Kd.C_get h z27 i h0 h1
  have hc : ∀ j u, c[j]? = some u → w.cell? (ad.add (i.toNat * 7 + j)) = some u := hc0
  obtain rfl := k27_open hK
  exact ⟨ad, e, hc 0 _ rfl, by rw [← add_field _ _ 1 (by omega)]; exact hc 1 _ rfl, by rw [← add_field _ _ 2 (by omega)]; exact hc 2 _ rfl, by rw [← add_field _ _ 3 (by omega)]; exact hc 3 _ rfl, by rw [← add_field _ _ 4 (by omega)]; exact hc 4 _ rfl, by rw [← add_field _ _ 5 (by omega)]; exact hc 5 _ rfl, by rw [← add_field _ _ 6 (by omega)]; exact hc 6 _ rfl⟩
structure S104 where
  f0 : S23
  f1 : Bool
  f2 : S25
def z104 : S104 := ⟨z23, false, z25⟩
def k104 : Kd S104 := Kd.iso (Kd.pair k23 (Kd.pair Kd.bool k25)) (fun x : S104 => (x.f0, x.f1, x.f2))
theorem k104_open {w : World} {x : S104} {cs : List Value} (h : k104.K w x cs) : cs = [.int .i64 x.f0.f0, .int .i64 x.f0.f1, .bool x.f1, .int .i64 x.f2.f0, .int .i64 x.f2.f1] := by
  obtain ⟨_, _, rfl, s0, ⟨_, _, rfl, rfl, s3⟩⟩ := h
  obtain rfl := k23_open s0
  obtain rfl := k25_open s3
  exact rfl
theorem k104_mkM (w : World) (base : Nat) (ok : Nat → Prop) (x : S104)  : k104.M w base ok x [.int .i64 x.f0.f0, .int .i64 x.f0.f1, .bool x.f1, .int .i64 x.f2.f0, .int .i64 x.f2.f1] := ⟨[.int .i64 x.f0.f0, .int .i64 x.f0.f1], [.bool x.f1, .int .i64 x.f2.f0, .int .i64 x.f2.f1], rfl, (k23_mkM w base ok x.f0 ), ⟨[.bool x.f1], [.int .i64 x.f2.f0, .int .i64 x.f2.f1], rfl, rfl, (k25_mkM w base ok x.f2 )⟩⟩
def rd_T104 (xs : List S104) (i : Int) : S104 := xs.getD i.toNat z104
theorem at_T104 {w : World} {A : Option Addr} {n : Nat} {xs : List S104} (h : Kd.C k104 w A n xs) (i : Int) (h0 : 0 ≤ i) (h1 : i < n) : ∃ ad , A = some ad ∧ w.cell? (ad.add (i.toNat * 5)) = some (.int .i64 (rd_T104 xs i).f0.f0) ∧ w.cell? ⟨(ad.add (i.toNat * 5)).block, (ad.add (i.toNat * 5)).off + 1, none⟩ = some (.int .i64 (rd_T104 xs i).f0.f1) ∧ w.cell? ⟨(ad.add (i.toNat * 5)).block, (ad.add (i.toNat * 5)).off + 2, none⟩ = some (.bool (rd_T104 xs i).f1) ∧ w.cell? ⟨(ad.add (i.toNat * 5)).block, (ad.add (i.toNat * 5)).off + 3, none⟩ = some (.int .i64 (rd_T104 xs i).f2.f0) ∧ w.cell? ⟨(ad.add (i.toNat * 5)).block, (ad.add (i.toNat * 5)).off + 4, none⟩ = some (.int .i64 (rd_T104 xs i).f2.f1) := by
  obtain ⟨ad, c, e, _, hK, hc0⟩ := Kd.C_get h z104 i h0 h1
  have hc : ∀ j u, c[j]? = some u → w.cell? (ad.add (i.toNat * 5 + j)) = some u := hc0
  obtain rfl := k104_open hK
  exact ⟨ad, e, hc 0 _ rfl, by rw [← add_field _ _ 1 (by omega)]; exact hc 1 _ rfl, by rw [← add_field _ _ 2 (by omega)]; exact hc 2 _ rfl, by rw [← add_field _ _ 3 (by omega)]; exact hc 3 _ rfl, by rw [← add_field _ _ 4 (by omega)]; exact hc 4 _ rfl⟩
structure S56 where
  f0 : S23
  f1 : Bool
  f2 : Int
def z56 : S56 := ⟨z23, false, (0 : Int)⟩
def k56 : Kd S56 := Kd.iso (Kd.pair k23 (Kd.pair Kd.bool (Kd.int .i64))) (fun x : S56 => (x.f0, x.f1, x.f2))
theorem k56_open {w : World} {x : S56} {cs : List Value} (h : k56.K w x cs) : cs = [.int .i64 x.f0.f0, .int .i64 x.f0.f1, .bool x.f1, .int .i64 x.f2] := by
  obtain ⟨_, _, rfl, s0, ⟨_, _, rfl, rfl, rfl⟩⟩ := h
  obtain rfl := k23_open s0
  exact rfl
theorem k56_openM {w : World} {base : Nat} {ok : Nat → Prop} {x : S56} {cs : List Value} (h : k56.M w base ok x cs) : cs = [.int .i64 x.f0.f0, .int .i64 x.f0.f1, .bool x.f1, .int .i64 x.f2] := by
  obtain ⟨_, _, rfl, s0, ⟨_, _, rfl, rfl, rfl⟩⟩ := h
  obtain rfl := k23_openM s0
  exact rfl
theorem k56_mkM (w : World) (base : Nat) (ok : Nat → Prop) (x : S56)  : k56.M w base ok x [.int .i64 x.f0.f0, .int .i64 x.f0.f1, .bool x.f1, .int .i64 x.f2] := ⟨[.int .i64 x.f0.f0, .int .i64 x.f0.f1], [.bool x.f1, .int .i64 x.f2], rfl, (k23_mkM w base ok x.f0 ), ⟨[.bool x.f1], [.int .i64 x.f2], rfl, rfl, rfl⟩⟩
def rd_T56 (xs : List S56) (i : Int) : S56 := xs.getD i.toNat z56
theorem at_T56 {w : World} {A : Option Addr} {n : Nat} {xs : List S56} (h : Kd.C k56 w A n xs) (i : Int) (h0 : 0 ≤ i) (h1 : i < n) : ∃ ad , A = some ad ∧ w.cell? (ad.add (i.toNat * 4)) = some (.int .i64 (rd_T56 xs i).f0.f0) ∧ w.cell? ⟨(ad.add (i.toNat * 4)).block, (ad.add (i.toNat * 4)).off + 1, none⟩ = some (.int .i64 (rd_T56 xs i).f0.f1) ∧ w.cell? ⟨(ad.add (i.toNat * 4)).block, (ad.add (i.toNat * 4)).off + 2, none⟩ = some (.bool (rd_T56 xs i).f1) ∧ w.cell? ⟨(ad.add (i.toNat * 4)).block, (ad.add (i.toNat * 4)).off + 3, none⟩ = some (.int .i64 (rd_T56 xs i).f2) := by
  obtain ⟨ad, c, e, _, hK, hc0⟩ := Kd.C_get h z56 i h0 h1
  have hc : ∀ j u, c[j]? = some u → w.cell? (ad.add (i.toNat * 4 + j)) = some u := hc0
  obtain rfl := k56_open hK
  exact ⟨ad, e, hc 0 _ rfl, by rw [← add_field _ _ 1 (by omega)]; exact hc 1 _ rfl, by rw [← add_field _ _ 2 (by omega)]; exact hc 2 _ rfl, by rw [← add_field _ _ 3 (by omega)]; exact hc 3 _ rfl⟩
structure S141 where
  f0 : S23
  f1 : Bool
  f2 : S25
end Go.Proofs.YtjemaonejkepcaaDoor.G
namespace Go.Proofs.YtjemaonejkepcaaDoor.G
open Go.Proofs.YtjemaonejkepcaaDoor.B
open Go.RowKit Go.Proofs.YtjemaonejkepcaaDoorW.PrintWords Go.Proofs.YtjemaonejkepcaaDoorW.PrintLast Go.Proofs.YtjemaonejkepcaaDoorW.PrintMore
attribute [local go_sem] max2_int min2_int max_two min_two max_three min_three max_four min_four   -- for this text's walks alone
set_option linter.unusedVariables false
set_option linter.unusedSimpArgs false
def metrolablaw47_few.f (l0 : List (S27)) : Option (Bool) := some (decide ((l0.length : Int) ≤ 32))
set_option maxHeartbeats 8000000 in
set_option maxRecDepth 100000 in
theorem metrolablaw47_few.calls (A0 : Option Addr) (c0 : Nat) (l0 : List (S27)) (r : Bool) (w : World) (hr0 : Kd.C k27 w A0 l0.length l0) (hc0 : l0.length ≤ c0) (h : metrolablaw47_few.f l0 = some r) :
    Calls Tryd.prog 29 #[.slice A0 l0.length c0] w fun e w' => e = .returned (.bool r) ∧ Drawn0 w w' := by
  have HR0 := Aside0.mk hr0
  have HC0 := Aside0.mk hc0
  clear hr0 hc0
  have H : (some (decide ((l0.length : Int) ≤ 32))) = some r := h
  clear h
  obtain rfl := Option.some.inj H
  go_enter Tryd.func29, Tryd.ntmps29
  go_wp2
  go_ret
  exact ⟨by first | rfl | (simp; done) | (simp [*]; done), by repeat (first | exact Drawn0.refl _ | apply Drawn0.step)⟩
def gauge_few.f (a0 : Int) : Option (Int) := if a0 > 16 then (some 5) else (some 0)
set_option maxHeartbeats 8000000 in
set_option maxRecDepth 100000 in
theorem gauge_few.calls (a0 : Int) (r : Int) (w : World) (h : gauge_few.f a0 = some r) :
    Calls Tryd.prog 84 #[.int .i64 a0] w fun e w' => e = .returned (.int .i64 r) ∧ Drawn0 w w' := by
  have H : (if a0 > 16 then (some 5) else (some 0)) = some r := h
  clear h
  by_cases c2 : a0 > 16
  · rw [if_pos c2] at H
    have c2b0 : decide (16 < a0) = true := decide_eq_true c2
    clear c2
    obtain rfl := Option.some.inj H
    go_enter Tryd.func84, Tryd.ntmps84
    go_wp2
    go_ret
    exact ⟨by first | rfl | (simp; done) | (simp [*]; done), by repeat (first | exact Drawn0.refl _ | apply Drawn0.step)⟩
  · rw [if_neg c2] at H
    have c2b0 : decide (16 < a0) = false := decide_eq_false c2
    clear c2
    obtain rfl := Option.some.inj H
    go_enter Tryd.func84, Tryd.ntmps84
    go_wp2
    go_ret
    exact ⟨by first | rfl | (simp; done) | (simp [*]; done), by repeat (first | exact Drawn0.refl _ | apply Drawn0.step)⟩
end Go.Proofs.YtjemaonejkepcaaDoor.G
namespace Go.Proofs.YtjemaonejkepcaaDoor.G
open Go.Proofs.YtjemaonejkepcaaDoor.B
open Go.RowKit Go.Proofs.YtjemaonejkepcaaDoorW.PrintWords Go.Proofs.YtjemaonejkepcaaDoorW.PrintLast Go.Proofs.YtjemaonejkepcaaDoorW.PrintMore
attribute [local go_sem] max2_int min2_int max_two min_two max_three min_three max_four min_four   -- for this text's walks alone
set_option linter.unusedVariables false
set_option linter.unusedSimpArgs false
def gauge_virtual_1.f (k : Nat) (a0 : Int) (a1_0 : Int) (a1_1 : Int) (a1_2 : Int) (a1_3 : Int) (a1_4 : Int) (a1_5 : Int) (a1_6 : Bool) : Option (Int × Int) := (bonus_Virtual.f k a1_0 a1_1 a1_2 a1_3 a1_4 a1_5 a1_6).bind fun bt102 => (if bt102.2 = 0 then (if a1_5 = 1 then (some (bt102.1, bt102.2)) else (some (0, 14))) else (some (bt102.1, bt102.2)))
theorem gauge_virtual_1.mono : ∀ a0 a1 a2 a3 a4 a5 a6 a7 k, LeO (gauge_virtual_1.f k a0 a1 a2 a3 a4 a5 a6 a7) (gauge_virtual_1.f (k + 1) a0 a1 a2 a3 a4 a5 a6 a7) := by
  intro a0 a1 a2 a3 a4 a5 a6 a7 k
  unfold gauge_virtual_1.f
  repeat' first
      | (with_reducible exact bonus_Virtual.mono _ _ _ _ _ _ _ _)
      | (with_reducible exact LeO.refl _)
      | (with_reducible exact LeO.none _)
      | (with_reducible refine LeO.ite ?_ ?_)
      | (with_reducible refine LeO.bind ?_ (fun _ => ?_))
      | exact bonus_Virtual.mono _ _ _ _ _ _ _ _
      | exact LeO.none _
      | refine LeO.ite ?_ ?_
      | refine LeO.bind ?_ (fun _ => ?_)
set_option maxHeartbeats 8000000 in
set_option maxRecDepth 100000 in
theorem gauge_virtual_1.calls (k : Nat) (a0 : Int) (a1_0 : Int) (a1_1 : Int) (a1_2 : Int) (a1_3 : Int) (a1_4 : Int) (a1_5 : Int) (a1_6 : Bool) (r1 : Int) (r2 : Int) (w : World) (h : gauge_virtual_1.f k a0 a1_0 a1_1 a1_2 a1_3 a1_4 a1_5 a1_6 = some (r1, r2)) (hS : SignsAt w) :
    Calls Tryd.prog 107 #[.int .i64 a0, .agg #[.int .i64 a1_0, .int .i64 a1_1, .int .i64 a1_2, .int .i64 a1_3, .int .i64 a1_4, .int .i64 a1_5, .bool a1_6]] w fun e w' => e = .returned (.tuple #[.int .i64 r1, .int .i64 r2]) ∧ Below w.heap.size w w' := by
  have HS := Aside0.mk hS
  clear hS
  have hu27 := Tryd.underlying27
  have HB := Aside0.mk (Below.refl w.heap.size w)
  have H : ((bonus_Virtual.f k a1_0 a1_1 a1_2 a1_3 a1_4 a1_5 a1_6).bind fun bt102 => (if bt102.2 = 0 then (if a1_5 = 1 then (some (bt102.1, bt102.2)) else (some (0, 14))) else (some (bt102.1, bt102.2)))) = some (r1, r2) := h
  clear h
  replace H := Option.bind_eq_some_iff.mp H
  obtain ⟨⟨t102, t103⟩, A30, H⟩ := H
  replace H : (if t103 = 0 then (if a1_5 = 1 then (some (t102, t103)) else (some (0, 14))) else (some (t102, t103))) = some (r1, r2) := H
  have A3 := Aside0.mk A30
  clear A30
  by_cases c4 : t103 = 0
  · rw [if_pos c4] at H
    have c4b0 : (t103 == 0) = true := beq_iff_eq.mpr c4
    have c4b1 : (t103 != 0) = false := bne_eq_false_iff_eq.mpr c4
    clear c4
    by_cases c5 : a1_5 = 1
    · rw [if_pos c5] at H
      have c5b0 : (a1_5 == 1) = true := beq_iff_eq.mpr c5
      have c5b1 : (a1_5 != 1) = false := bne_eq_false_iff_eq.mpr c5
      clear c5
      simp only [Option.some.injEq, Prod.mk.injEq] at H
      obtain ⟨rfl, rfl⟩ := H
      go_enter Tryd.func107, Tryd.ntmps107
      go_wp2_with (first | ((with_reducible refine gate_dst (N := 3) rfl ?_); refine box_event ?hg (N := 3) ?hd (cs := #[.int .i64 a1_0, .int .i64 a1_1, .int .i64 a1_2, .int .i64 a1_3, .int .i64 a1_4, .int .i64 a1_5, .bool a1_6]) (t := 27) ?hr ?_; (case hd => rfl); (case hg => rfl); (case hr => first | (go_simp; done) | (go_simp; rfl)); intro gb101 hg w6 hbox hb; have n0_ := Aside0.mk (below_step (by repeat (first | (with_reducible first | exact HB.out | apply below_alloc | apply pw_below_drewN | apply below_drew1) | exact HB.out)) hb); have n1_ := Aside0.mk (hbox); have n2_ := Aside0.mk ((by rw [hg]; exact (below_size (by repeat (first | (with_reducible first | exact HB.out | apply below_alloc | apply pw_below_drewN | apply below_drew1) | exact HB.out))) : w.heap.size ≤ gb101)); have n3_ := Aside0.mk ((by rw [hg]; exact (below_size (by repeat (first | (with_reducible first | exact HB.out | apply below_alloc | apply pw_below_drewN | apply below_drew1) | exact HB.out))) : w.heap.size ≤ gb101)); clear HB; have HB := n0_; have BK101 := n1_; have GW101 := n2_; have GE101 := n3_; clear n0_ n1_ n2_ n3_; clear hb hbox hg; have hcz7_0 : w6.cell? ⟨gb101, 0, none⟩ = some (.int .i64 a1_0) := (blk_cell BK101.out 0).trans rfl; have hcz7_1 : w6.cell? ⟨gb101, 1, none⟩ = some (.int .i64 a1_1) := (blk_cell BK101.out 1).trans rfl; have hcz7_2 : w6.cell? ⟨gb101, 2, none⟩ = some (.int .i64 a1_2) := (blk_cell BK101.out 2).trans rfl; have hcz7_3 : w6.cell? ⟨gb101, 3, none⟩ = some (.int .i64 a1_3) := (blk_cell BK101.out 3).trans rfl; have hcz7_4 : w6.cell? ⟨gb101, 4, none⟩ = some (.int .i64 a1_4) := (blk_cell BK101.out 4).trans rfl; have hcz7_5 : w6.cell? ⟨gb101, 5, none⟩ = some (.int .i64 a1_5) := (blk_cell BK101.out 5).trans rfl; have hcz7_6 : w6.cell? ⟨gb101, 6, none⟩ = some (.bool a1_6) := (blk_cell BK101.out 6).trans rfl; have hfz7_0 := blk_frozen BK101.out 0; have hfz7_1 := blk_frozen BK101.out 1; have hfz7_2 := blk_frozen BK101.out 2; have hfz7_3 := blk_frozen BK101.out 3; have hfz7_4 := blk_frozen BK101.out 4; have hfz7_5 := blk_frozen BK101.out 5; have hfz7_6 := blk_frozen BK101.out 6) | ((with_reducible refine gate_callee (f := 18) rfl ?_); refine goesL_ (some 10) rfl rfl Tryd.func18 (by kernel_rfl) rfl #[.agg #[.int .i64 a1_0, .int .i64 a1_1, .int .i64 a1_2, .int .i64 a1_3, .int .i64 a1_4, .int .i64 a1_5, .bool a1_6]] rfl (by (try simp only [List.map_toArray, List.map_cons, List.map_nil]); first | done | rfl | (simp only [List.length_drop, List.length_take]; rfl)) ?_; (with_reducible refine (bonus_Virtual.calls k a1_0 a1_1 a1_2 a1_3 a1_4 a1_5 a1_6 t102 t103 _ A3.out (by exact sig_below HS.out (by repeat (first | (with_reducible first | exact HB.out | apply below_alloc | apply pw_below_drewN | apply below_drew1 | refine below_set ?_ GE101.out) | exact HB.out)))).mono ?_); rintro e w8 ⟨rfl, hb⟩; refine ⟨_, rfl, ?_⟩; have n0_ := Aside0.mk (blk_below (g := gb101) (o := .cells #[.int .i64 a1_0, .int .i64 a1_1, .int .i64 a1_2, .int .i64 a1_3, .int .i64 a1_4, .int .i64 a1_5, .bool a1_6] 27 (0, 0)) (by (with_reducible repeat (first | refine blk_drewN ?_ _ | refine blk_drew ?_ | refine blk_alloc ?_ _)); exact BK101.out) hb); have n1_ := Aside0.mk (below_step (by repeat (first | (with_reducible first | exact HB.out | apply below_alloc | apply pw_below_drewN | apply below_drew1 | refine below_set ?_ GE101.out) | exact HB.out)) hb); clear BK101; clear HB; have BK101 := n0_; have HB := n1_; clear n0_ n1_; (try clear hb); (try clear hb2); (try clear hk); (try clear hi); have hcz9_0 : w8.cell? ⟨gb101, 0, none⟩ = some (.int .i64 a1_0) := (blk_cell BK101.out 0).trans rfl; have hcz9_1 : w8.cell? ⟨gb101, 1, none⟩ = some (.int .i64 a1_1) := (blk_cell BK101.out 1).trans rfl; have hcz9_2 : w8.cell? ⟨gb101, 2, none⟩ = some (.int .i64 a1_2) := (blk_cell BK101.out 2).trans rfl; have hcz9_3 : w8.cell? ⟨gb101, 3, none⟩ = some (.int .i64 a1_3) := (blk_cell BK101.out 3).trans rfl; have hcz9_4 : w8.cell? ⟨gb101, 4, none⟩ = some (.int .i64 a1_4) := (blk_cell BK101.out 4).trans rfl; have hcz9_5 : w8.cell? ⟨gb101, 5, none⟩ = some (.int .i64 a1_5) := (blk_cell BK101.out 5).trans rfl; have hcz9_6 : w8.cell? ⟨gb101, 6, none⟩ = some (.bool a1_6) := (blk_cell BK101.out 6).trans rfl; have hfz9_0 := blk_frozen BK101.out 0; have hfz9_1 := blk_frozen BK101.out 1; have hfz9_2 := blk_frozen BK101.out 2; have hfz9_3 := blk_frozen BK101.out 3; have hfz9_4 := blk_frozen BK101.out 4; have hfz9_5 := blk_frozen BK101.out 5; have hfz9_6 := blk_frozen BK101.out 6))
      go_ret2
      exact ⟨by first | rfl | (simp [errW_none, errW_some] <;> rfl) | (simp [*, errW_none, errW_some] <;> rfl), by repeat (first | (with_reducible first | exact HB.out | apply below_alloc | apply pw_below_drewN | apply below_drew1 | refine below_set ?_ GE101.out) | exact HB.out)⟩
    · rw [if_neg c5] at H
      have c5b0 : (a1_5 == 1) = false := beq_eq_false_iff_ne.mpr c5
      have c5b1 : (a1_5 != 1) = true := bne_iff_ne.mpr c5
      simp only [Option.some.injEq, Prod.mk.injEq] at H
      obtain ⟨rfl, rfl⟩ := H
      go_enter Tryd.func107, Tryd.ntmps107
      go_wp2_with (first | ((with_reducible refine gate_dst (N := 3) rfl ?_); refine box_event ?hg (N := 3) ?hd (cs := #[.int .i64 a1_0, .int .i64 a1_1, .int .i64 a1_2, .int .i64 a1_3, .int .i64 a1_4, .int .i64 a1_5, .bool a1_6]) (t := 27) ?hr ?_; (case hd => rfl); (case hg => rfl); (case hr => first | (go_simp; done) | (go_simp; rfl)); intro gb101 hg w10 hbox hb; have n0_ := Aside0.mk (below_step (by repeat (first | (with_reducible first | exact HB.out | apply below_alloc | apply pw_below_drewN | apply below_drew1) | exact HB.out)) hb); have n1_ := Aside0.mk (hbox); have n2_ := Aside0.mk ((by rw [hg]; exact (below_size (by repeat (first | (with_reducible first | exact HB.out | apply below_alloc | apply pw_below_drewN | apply below_drew1) | exact HB.out))) : w.heap.size ≤ gb101)); have n3_ := Aside0.mk ((by rw [hg]; exact (below_size (by repeat (first | (with_reducible first | exact HB.out | apply below_alloc | apply pw_below_drewN | apply below_drew1) | exact HB.out))) : w.heap.size ≤ gb101)); clear HB; have HB := n0_; have BK101 := n1_; have GW101 := n2_; have GE101 := n3_; clear n0_ n1_ n2_ n3_; clear hb hbox hg; have hcz11_0 : w10.cell? ⟨gb101, 0, none⟩ = some (.int .i64 a1_0) := (blk_cell BK101.out 0).trans rfl; have hcz11_1 : w10.cell? ⟨gb101, 1, none⟩ = some (.int .i64 a1_1) := (blk_cell BK101.out 1).trans rfl; have hcz11_2 : w10.cell? ⟨gb101, 2, none⟩ = some (.int .i64 a1_2) := (blk_cell BK101.out 2).trans rfl; have hcz11_3 : w10.cell? ⟨gb101, 3, none⟩ = some (.int .i64 a1_3) := (blk_cell BK101.out 3).trans rfl; have hcz11_4 : w10.cell? ⟨gb101, 4, none⟩ = some (.int .i64 a1_4) := (blk_cell BK101.out 4).trans rfl; have hcz11_5 : w10.cell? ⟨gb101, 5, none⟩ = some (.int .i64 a1_5) := (blk_cell BK101.out 5).trans rfl; have hcz11_6 : w10.cell? ⟨gb101, 6, none⟩ = some (.bool a1_6) := (blk_cell BK101.out 6).trans rfl; have hfz11_0 := blk_frozen BK101.out 0; have hfz11_1 := blk_frozen BK101.out 1; have hfz11_2 := blk_frozen BK101.out 2; have hfz11_3 := blk_frozen BK101.out 3; have hfz11_4 := blk_frozen BK101.out 4; have hfz11_5 := blk_frozen BK101.out 5; have hfz11_6 := blk_frozen BK101.out 6) | ((with_reducible refine gate_callee (f := 18) rfl ?_); refine goesL_ (some 10) rfl rfl Tryd.func18 (by kernel_rfl) rfl #[.agg #[.int .i64 a1_0, .int .i64 a1_1, .int .i64 a1_2, .int .i64 a1_3, .int .i64 a1_4, .int .i64 a1_5, .bool a1_6]] rfl (by (try simp only [List.map_toArray, List.map_cons, List.map_nil]); first | done | rfl | (simp only [List.length_drop, List.length_take]; rfl)) ?_; (with_reducible refine (bonus_Virtual.calls k a1_0 a1_1 a1_2 a1_3 a1_4 a1_5 a1_6 t102 t103 _ A3.out (by exact sig_below HS.out (by repeat (first | (with_reducible first | exact HB.out | apply below_alloc | apply pw_below_drewN | apply below_drew1 | refine below_set ?_ GE101.out) | exact HB.out)))).mono ?_); rintro e w12 ⟨rfl, hb⟩; refine ⟨_, rfl, ?_⟩; have n0_ := Aside0.mk (blk_below (g := gb101) (o := .cells #[.int .i64 a1_0, .int .i64 a1_1, .int .i64 a1_2, .int .i64 a1_3, .int .i64 a1_4, .int .i64 a1_5, .bool a1_6] 27 (0, 0)) (by (with_reducible repeat (first | refine blk_drewN ?_ _ | refine blk_drew ?_ | refine blk_alloc ?_ _)); exact BK101.out) hb); have n1_ := Aside0.mk (below_step (by repeat (first | (with_reducible first | exact HB.out | apply below_alloc | apply pw_below_drewN | apply below_drew1 | refine below_set ?_ GE101.out) | exact HB.out)) hb); clear BK101; clear HB; have BK101 := n0_; have HB := n1_; clear n0_ n1_; (try clear hb); (try clear hb2); (try clear hk); (try clear hi); have hcz13_0 : w12.cell? ⟨gb101, 0, none⟩ = some (.int .i64 a1_0) := (blk_cell BK101.out 0).trans rfl; have hcz13_1 : w12.cell? ⟨gb101, 1, none⟩ = some (.int .i64 a1_1) := (blk_cell BK101.out 1).trans rfl; have hcz13_2 : w12.cell? ⟨gb101, 2, none⟩ = some (.int .i64 a1_2) := (blk_cell BK101.out 2).trans rfl; have hcz13_3 : w12.cell? ⟨gb101, 3, none⟩ = some (.int .i64 a1_3) := (blk_cell BK101.out 3).trans rfl; have hcz13_4 : w12.cell? ⟨gb101, 4, none⟩ = some (.int .i64 a1_4) := (blk_cell BK101.out 4).trans rfl; have hcz13_5 : w12.cell? ⟨gb101, 5, none⟩ = some (.int .i64 a1_5) := (blk_cell BK101.out 5).trans rfl; have hcz13_6 : w12.cell? ⟨gb101, 6, none⟩ = some (.bool a1_6) := (blk_cell BK101.out 6).trans rfl; have hfz13_0 := blk_frozen BK101.out 0; have hfz13_1 := blk_frozen BK101.out 1; have hfz13_2 := blk_frozen BK101.out 2; have hfz13_3 := blk_frozen BK101.out 3; have hfz13_4 := blk_frozen BK101.out 4; have hfz13_5 := blk_frozen BK101.out 5; have hfz13_6 := blk_frozen BK101.out 6))
      go_ret2
      exact ⟨by first | rfl | (simp [errW_none, errW_some] <;> rfl) | (simp [*, errW_none, errW_some] <;> rfl), by repeat (first | (with_reducible first | exact HB.out | apply below_alloc | apply pw_below_drewN | apply below_drew1 | refine below_set ?_ GE101.out) | exact HB.out)⟩
  · rw [if_neg c4] at H
    have c4b0 : (t103 == 0) = false := beq_eq_false_iff_ne.mpr c4
    have c4b1 : (t103 != 0) = true := bne_iff_ne.mpr c4
    simp only [Option.some.injEq, Prod.mk.injEq] at H
    obtain ⟨rfl, rfl⟩ := H
    go_enter Tryd.func107, Tryd.ntmps107
    go_wp2_with (first | ((with_reducible refine gate_dst (N := 3) rfl ?_); refine box_event ?hg (N := 3) ?hd (cs := #[.int .i64 a1_0, .int .i64 a1_1, .int .i64 a1_2, .int .i64 a1_3, .int .i64 a1_4, .int .i64 a1_5, .bool a1_6]) (t := 27) ?hr ?_; (case hd => rfl); (case hg => rfl); (case hr => first | (go_simp; done) | (go_simp; rfl)); intro gb101 hg w14 hbox hb; have n0_ := Aside0.mk (below_step (by repeat (first | (with_reducible first | exact HB.out | apply below_alloc | apply pw_below_drewN | apply below_drew1) | exact HB.out)) hb); have n1_ := Aside0.mk (hbox); have n2_ := Aside0.mk ((by rw [hg]; exact (below_size (by repeat (first | (with_reducible first | exact HB.out | apply below_alloc | apply pw_below_drewN | apply below_drew1) | exact HB.out))) : w.heap.size ≤ gb101)); have n3_ := Aside0.mk ((by rw [hg]; exact (below_size (by repeat (first | (with_reducible first | exact HB.out | apply below_alloc | apply pw_below_drewN | apply below_drew1) | exact HB.out))) : w.heap.size ≤ gb101)); clear HB; have HB := n0_; have BK101 := n1_; have GW101 := n2_; have GE101 := n3_; clear n0_ n1_ n2_ n3_; clear hb hbox hg; have hcz15_0 : w14.cell? ⟨gb101, 0, none⟩ = some (.int .i64 a1_0) := (blk_cell BK101.out 0).trans rfl; have hcz15_1 : w14.cell? ⟨gb101, 1, none⟩ = some (.int .i64 a1_1) := (blk_cell BK101.out 1).trans rfl; have hcz15_2 : w14.cell? ⟨gb101, 2, none⟩ = some (.int .i64 a1_2) := (blk_cell BK101.out 2).trans rfl; have hcz15_3 : w14.cell? ⟨gb101, 3, none⟩ = some (.int .i64 a1_3) := (blk_cell BK101.out 3).trans rfl; have hcz15_4 : w14.cell? ⟨gb101, 4, none⟩ = some (.int .i64 a1_4) := (blk_cell BK101.out 4).trans rfl; have hcz15_5 : w14.cell? ⟨gb101, 5, none⟩ = some (.int .i64 a1_5) := (blk_cell BK101.out 5).trans rfl; have hcz15_6 : w14.cell? ⟨gb101, 6, none⟩ = some (.bool a1_6) := (blk_cell BK101.out 6).trans rfl; have hfz15_0 := blk_frozen BK101.out 0; have hfz15_1 := blk_frozen BK101.out 1; have hfz15_2 := blk_frozen BK101.out 2; have hfz15_3 := blk_frozen BK101.out 3; have hfz15_4 := blk_frozen BK101.out 4; have hfz15_5 := blk_frozen BK101.out 5; have hfz15_6 := blk_frozen BK101.out 6) | ((with_reducible refine gate_callee (f := 18) rfl ?_); refine goesL_ (some 10) rfl rfl Tryd.func18 (by kernel_rfl) rfl #[.agg #[.int .i64 a1_0, .int .i64 a1_1, .int .i64 a1_2, .int .i64 a1_3, .int .i64 a1_4, .int .i64 a1_5, .bool a1_6]] rfl (by (try simp only [List.map_toArray, List.map_cons, List.map_nil]); first | done | rfl | (simp only [List.length_drop, List.length_take]; rfl)) ?_; (with_reducible refine (bonus_Virtual.calls k a1_0 a1_1 a1_2 a1_3 a1_4 a1_5 a1_6 t102 t103 _ A3.out (by exact sig_below HS.out (by repeat (first | (with_reducible first | exact HB.out | apply below_alloc | apply pw_below_drewN | apply below_drew1 | refine below_set ?_ GE101.out) | exact HB.out)))).mono ?_); rintro e w16 ⟨rfl, hb⟩; refine ⟨_, rfl, ?_⟩; have n0_ := Aside0.mk (blk_below (g := gb101) (o := .cells #[.int .i64 a1_0, .int .i64 a1_1, .int .i64 a1_2, .int .i64 a1_3, .int .i64 a1_4, .int .i64 a1_5, .bool a1_6] 27 (0, 0)) (by (with_reducible repeat (first | refine blk_drewN ?_ _ | refine blk_drew ?_ | refine blk_alloc ?_ _)); exact BK101.out) hb); have n1_ := Aside0.mk (below_step (by repeat (first | (with_reducible first | exact HB.out | apply below_alloc | apply pw_below_drewN | apply below_drew1 | refine below_set ?_ GE101.out) | exact HB.out)) hb); clear BK101; clear HB; have BK101 := n0_; have HB := n1_; clear n0_ n1_; (try clear hb); (try clear hb2); (try clear hk); (try clear hi)))
    go_ret2
    exact ⟨by first | rfl | (simp [errW_none, errW_some] <;> rfl) | (simp [*, errW_none, errW_some] <;> rfl), by repeat (first | (with_reducible first | exact HB.out | apply below_alloc | apply pw_below_drewN | apply below_drew1 | refine below_set ?_ GE101.out) | exact HB.out)⟩
def api_Target_int.l0 : Nat → List Int → List (S27) → Int → Int → Option (List Int × Int)
  | 0, _, _, _, _ => none
  | k + 1, x6, x11, x12, x13 => if x13 < x12 then (if 0 ≤ x13 then (if x13 < (x11.length : Int) then ((gauge_virtual_1.f k x13 ((rd_T27 x11 x13).f0.f0) ((rd_T27 x11 x13).f0.f1) ((rd_T27 x11 x13).f1.f0) ((rd_T27 x11 x13).f1.f1) ((rd_T27 x11 x13).f2) ((rd_T27 x11 x13).f3) ((rd_T27 x11 x13).f4)).bind fun bt106 => (if bt106.2 = 0 then (if x6.length < 17592186044416 then (api_Target_int.l0 k (x6 ++ [bt106.1]) x11 x12 (wrap64 (x13 + 1))) else (none)) else (some (([] : List Int), bt106.2)))) else (none)) else (none)) else (some (x6, 0))
def api_Target_int.f (k : Nat) (l0 : List (S27)) : Option (List Int × Int) := api_Target_int.l0 k ([] : List Int) l0 (l0.length : Int) 0
theorem api_Target_int.mono_l : ∀ k, (∀ y0 y1 y2 y3, LeO (api_Target_int.l0 k y0 y1 y2 y3) (api_Target_int.l0 (k + 1) y0 y1 y2 y3))
  | 0 => fun _ _ _ _ r h => by simp [api_Target_int.l0] at h
  | k + 1 => by
    have ih0 := api_Target_int.mono_l k
    · intro y0 y1 y2 y3
      unfold api_Target_int.l0
      repeat' first
      | (with_reducible exact ih0 _ _ _ _)
      | (with_reducible exact gauge_virtual_1.mono _ _ _ _ _ _ _ _ _)
      | (with_reducible exact LeO.refl _)
      | (with_reducible exact LeO.none _)
      | (with_reducible refine LeO.ite ?_ ?_)
      | (with_reducible refine LeO.bind ?_ (fun _ => ?_))
      | exact ih0 _ _ _ _
      | exact gauge_virtual_1.mono _ _ _ _ _ _ _ _ _
      | exact LeO.none _
      | refine LeO.ite ?_ ?_
      | refine LeO.bind ?_ (fun _ => ?_)
theorem api_Target_int.mono : ∀ a0 k, LeO (api_Target_int.f k a0) (api_Target_int.f (k + 1) a0) := by
  intro a0 k
  have ih0 := api_Target_int.mono_l k
  unfold api_Target_int.f
  repeat' first
      | (with_reducible exact ih0 _ _ _ _)
      | (with_reducible exact gauge_virtual_1.mono _ _ _ _ _ _ _ _ _)
      | (with_reducible exact LeO.refl _)
      | (with_reducible exact LeO.none _)
      | (with_reducible refine LeO.ite ?_ ?_)
      | (with_reducible refine LeO.bind ?_ (fun _ => ?_))
      | exact ih0 _ _ _ _
      | exact gauge_virtual_1.mono _ _ _ _ _ _ _ _ _
      | exact LeO.none _
      | refine LeO.ite ?_ ?_
      | refine LeO.bind ?_ (fun _ => ?_)
set_option maxHeartbeats 8000000 in
set_option maxRecDepth 100000 in
theorem api_Target_int.calls (k : Nat) (A0 : Option Addr) (c0 : Nat) (l0 : List (S27)) (r1 : List Int) (r2 : Int) (w : World) (hr0 : Kd.C k27 w A0 l0.length l0) (hc0 : l0.length ≤ c0) (h : api_Target_int.f k l0 = some (r1, r2)) (hS : SignsAt w) :
    Calls Tryd.prog 106 #[.slice A0 l0.length c0, .func (.func 107) #[] #[]] w fun e w' => ∃ v0_ : Value, e = .returned (.tuple #[v0_, .int .i64 r2]) ∧ Kd.R (Kd.int .i64) 3 w' w.heap.size (fun _ => True) v0_ r1 ∧ Below w.heap.size w w' := by
  have HS := Aside0.mk hS
  clear hS
  have hu27 := Tryd.underlying27
  have HR0 := Aside0.mk hr0
  have HC0 := Aside0.mk hc0
  clear hr0 hc0
  have HB := Aside0.mk (Below.refl w.heap.size w)
  have H : (api_Target_int.l0 k ([] : List Int) l0 (l0.length : Int) 0) = some (r1, r2) := h
  clear h
  have H' := Aside0.mk H
  clear H
  go_enter Tryd.func106, Tryd.ntmps106
  go_wp2
  go_loopg [6, 13] k (fun kq v6 v13 w' => ∃ (x6_1 : List Int) (x13_1 : Int), v13 = .int .i64 x13_1 ∧ Aside0 (api_Target_int.l0 kq x6_1 l0 (l0.length : Int) x13_1 = some (r1, r2)) ∧ Aside0 (kq ≤ k) ∧ Aside0 (Kd.R (Kd.int .i64) 3 w' w.heap.size (fun _ => True) v6 x6_1) ∧ Aside0 (Below w.heap.size w w'))
  case atStart => exact ⟨(([] : List Int)), (0), (by first | rfl | (simp; done) | (simp [*]; done)), H', ⟨Nat.le_refl _⟩, ⟨by first | exact Kd.R_nil _ _ _ _ _ | exact Kd.N_nil _ _ _ _ _ | exact Kd.V_nil _ _ _ _ _ | exact Kd.Q_nil _ _ _ _ _ | exact Kd.S_nil _ _ _ _ _⟩, ⟨by repeat (first | (with_reducible first | exact HB.out | apply below_alloc | apply pw_below_drewN | apply below_drew1) | exact HB.out)⟩⟩
  case round =>
    clear H'
    try clear c1
    obtain ⟨x6_1, x13_1, rfl, HA, HK1, HO_6, HB⟩ := hrel
    cases gk with
    | zero => exact absurd HA.out (by simp [api_Target_int.l0])
    | succ k1 =>
      have H := HA.out
      clear HA
      simp only [api_Target_int.l0] at H
      by_cases c2 : x13_1 < (l0.length : Int)
      · rw [if_pos c2] at H
        have c2b0 : decide (x13_1 < (l0.length : Int)) = true := decide_eq_true c2
        clear c2
        by_cases c3 : 0 ≤ x13_1
        · rw [if_pos c3] at H
          have c3b0 : decide (0 ≤ x13_1) = true := decide_eq_true c3
          clear c3
          by_cases c4 : x13_1 < (l0.length : Int)
          · rw [if_pos c4] at H
            have c4b0 : decide (x13_1 < (l0.length : Int)) = true := decide_eq_true c4
            clear c4
            replace H := Option.bind_eq_some_iff.mp H
            obtain ⟨⟨t106, t107⟩, A50, H⟩ := H
            replace H : (if t107 = 0 then (if x6_1.length < 17592186044416 then (api_Target_int.l0 k1 (x6_1 ++ [t106]) l0 (l0.length : Int) (wrap64 (x13_1 + 1))) else (none)) else (some (([] : List Int), t107))) = some (r1, r2) := H
            have A5 := Aside0.mk A50
            clear A50
            by_cases c6 : t107 = 0
            · rw [if_pos c6] at H
              have c6b0 : (t107 == 0) = true := beq_iff_eq.mpr c6
              have c6b1 : (t107 != 0) = false := bne_eq_false_iff_eq.mpr c6
              clear c6
              by_cases c7 : x6_1.length < 17592186044416
              · rw [if_pos c7] at H
                have LMc7 := Aside0.mk c7
                clear c7
                obtain ⟨y108, hy108⟩ : ∃ y_ : List Int, y_ = (x6_1 ++ [t106]) := ⟨_, rfl⟩
                replace H : (api_Target_int.l0 k1 y108 l0 (l0.length : Int) (wrap64 (x13_1 + 1))) = some (r1, r2) := by first | (rw [hy108]; with_reducible exact H) | (have H2_ := (Option.bind_some _ _).symm.trans H; rw [hy108]; with_reducible exact H2_) | (have H2_ := (Option.bind_some _ _).symm.trans H; with_reducible exact H2_) | with_reducible exact H | (rw [hy108]; exact H) | exact H
                have Ny108 := Aside0.mk hy108
                clear hy108
                have H' := Aside0.mk H
                clear H
                have p104 : 0 ≤ (x13_1 : Int) := of_decide_eq_true (by first | (with_reducible assumption) | assumption)
                have q104 : x13_1 < (l0.length : Int) := of_decide_eq_true (by first | (with_reducible assumption) | assumption)
                obtain ⟨ad104, e104, hx104_0, hx104_1, hx104_2, hx104_3, hx104_4, hx104_5, hx104_6⟩ := at_T27 HR0.out x13_1 p104 q104
                cases e104
                replace hx104_0 := (HB.out.cell (World.block_lt_of_cell? w _ hx104_0)).trans hx104_0
                replace hx104_1 := (HB.out.cell (World.block_lt_of_cell? w _ hx104_1)).trans hx104_1
                replace hx104_2 := (HB.out.cell (World.block_lt_of_cell? w _ hx104_2)).trans hx104_2
                replace hx104_3 := (HB.out.cell (World.block_lt_of_cell? w _ hx104_3)).trans hx104_3
                replace hx104_4 := (HB.out.cell (World.block_lt_of_cell? w _ hx104_4)).trans hx104_4
                replace hx104_5 := (HB.out.cell (World.block_lt_of_cell? w _ hx104_5)).trans hx104_5
                replace hx104_6 := (HB.out.cell (World.block_lt_of_cell? w _ hx104_6)).trans hx104_6
                replace p104 := eq_true p104
                replace q104 := eq_true q104
                go_wp2_with (first | ((with_reducible refine gate_dst (N := 8) rfl ?_); refine box_event ?hg (N := 8) ?hd (cs := #[.int .i64 0, .int .i64 0, .int .i64 0, .int .i64 0, .int .i64 0, .int .i64 0, .bool false]) (t := 27) ?hr ?_; (case hd => rfl); (case hg => rfl); (case hr => first | (go_simp; done) | (go_simp; rfl)); intro gb105 hg w8 hbox hb; have n0_ := Aside0.mk (Kd.R_below (by (with_reducible repeat (first | apply Kd.R_alloc | apply Kd.R_drewN | apply Kd.R_drew)); exact HO_6.out) hb); have n1_ := Aside0.mk (below_step (by repeat (first | (with_reducible first | exact HB.out | apply below_alloc | apply pw_below_drewN | apply below_drew1) | exact HB.out)) hb); have n2_ := Aside0.mk (hbox); have n3_ := Aside0.mk ((by rw [hg]; exact (below_size (by repeat (first | (with_reducible first | exact HB.out | apply below_alloc | apply pw_below_drewN | apply below_drew1) | exact HB.out))) : w.heap.size ≤ gb105)); have n4_ := Aside0.mk ((by rw [hg]; exact (below_size (by repeat (first | (with_reducible first | exact HB.out | apply below_alloc | apply pw_below_drewN | apply below_drew1) | exact HB.out))) : w.heap.size ≤ gb105)); clear HO_6; clear HB; have HO_6 := n0_; have HB := n1_; have BK105 := n2_; have GW105 := n3_; have GE105 := n4_; clear n0_ n1_ n2_ n3_ n4_; clear hb hbox hg; have hcz9_0 : w8.cell? ⟨gb105, 0, none⟩ = some (.int .i64 0) := (blk_cell BK105.out 0).trans rfl; have hcz9_1 : w8.cell? ⟨gb105, 1, none⟩ = some (.int .i64 0) := (blk_cell BK105.out 1).trans rfl; have hcz9_2 : w8.cell? ⟨gb105, 2, none⟩ = some (.int .i64 0) := (blk_cell BK105.out 2).trans rfl; have hcz9_3 : w8.cell? ⟨gb105, 3, none⟩ = some (.int .i64 0) := (blk_cell BK105.out 3).trans rfl; have hcz9_4 : w8.cell? ⟨gb105, 4, none⟩ = some (.int .i64 0) := (blk_cell BK105.out 4).trans rfl; have hcz9_5 : w8.cell? ⟨gb105, 5, none⟩ = some (.int .i64 0) := (blk_cell BK105.out 5).trans rfl; have hcz9_6 : w8.cell? ⟨gb105, 6, none⟩ = some (.bool false) := (blk_cell BK105.out 6).trans rfl; have hfz9_0 := blk_frozen BK105.out 0; have hfz9_1 := blk_frozen BK105.out 1; have hfz9_2 := blk_frozen BK105.out 2; have hfz9_3 := blk_frozen BK105.out 3; have hfz9_4 := blk_frozen BK105.out 4; have hfz9_5 := blk_frozen BK105.out 5; have hfz9_6 := blk_frozen BK105.out 6) | (go_at_call 107; (with_reducible refine (gauge_virtual_1.calls k1 x13_1 ((rd_T27 l0 x13_1).f0.f0) ((rd_T27 l0 x13_1).f0.f1) ((rd_T27 l0 x13_1).f1.f0) ((rd_T27 l0 x13_1).f1.f1) ((rd_T27 l0 x13_1).f2) ((rd_T27 l0 x13_1).f3) ((rd_T27 l0 x13_1).f4) t106 t107 _ A5.out (by exact sig_below HS.out (by repeat (first | (with_reducible first | exact HB.out | apply below_alloc | apply pw_below_drewN | apply below_drew1 | refine below_set ?_ GE105.out) | exact HB.out)))).mono ?_); rintro e w10 ⟨rfl, hb⟩; skip; have n0_ := Aside0.mk (Kd.R_below (by (with_reducible repeat (first | apply Kd.R_alloc | apply Kd.R_drewN | apply Kd.R_drew)); exact (Kd.R_mono (Kd.R_far (p := ⟨gb105, 6, none⟩) (Kd.R_far (p := ⟨gb105, 5, none⟩) (Kd.R_far (p := ⟨gb105, 4, none⟩) (Kd.R_far (p := ⟨gb105, 3, none⟩) (Kd.R_far (p := ⟨gb105, 2, none⟩) (Kd.R_far (p := ⟨gb105, 1, none⟩) (Kd.R_far (p := ⟨gb105, 0, none⟩) (Kd.R_types HO_6.out BK105.out (by decide)) (fun _ hk => hk.2) (.int .i64 ((rd_T27 l0 x13_1).f0.f0))) (fun _ hk => hk.2) (.int .i64 ((rd_T27 l0 x13_1).f0.f1))) (fun _ hk => hk.2) (.int .i64 ((rd_T27 l0 x13_1).f1.f0))) (fun _ hk => hk.2) (.int .i64 ((rd_T27 l0 x13_1).f1.f1))) (fun _ hk => hk.2) (.int .i64 ((rd_T27 l0 x13_1).f2))) (fun _ hk => hk.2) (.int .i64 ((rd_T27 l0 x13_1).f3))) (fun _ hk => hk.2) (.bool ((rd_T27 l0 x13_1).f4))) (fun _ h_ => h_.1))) hb); have n1_ := Aside0.mk (blk_below (g := gb105) (o := .cells #[.int .i64 ((rd_T27 l0 x13_1).f0.f0), .int .i64 ((rd_T27 l0 x13_1).f0.f1), .int .i64 ((rd_T27 l0 x13_1).f1.f0), .int .i64 ((rd_T27 l0 x13_1).f1.f1), .int .i64 ((rd_T27 l0 x13_1).f2), .int .i64 ((rd_T27 l0 x13_1).f3), .bool ((rd_T27 l0 x13_1).f4)] 27 (0, 0)) (by (with_reducible repeat (first | refine blk_drewN ?_ _ | refine blk_drew ?_ | refine blk_alloc ?_ _)); refine blk_put (cs := #[.int .i64 ((rd_T27 l0 x13_1).f0.f0), .int .i64 ((rd_T27 l0 x13_1).f0.f1), .int .i64 ((rd_T27 l0 x13_1).f1.f0), .int .i64 ((rd_T27 l0 x13_1).f1.f1), .int .i64 ((rd_T27 l0 x13_1).f2), .int .i64 ((rd_T27 l0 x13_1).f3), .bool false]) ?_ 6 _ rfl; (with_reducible repeat (first | refine blk_drewN ?_ _ | refine blk_drew ?_ | refine blk_alloc ?_ _)); refine blk_put (cs := #[.int .i64 ((rd_T27 l0 x13_1).f0.f0), .int .i64 ((rd_T27 l0 x13_1).f0.f1), .int .i64 ((rd_T27 l0 x13_1).f1.f0), .int .i64 ((rd_T27 l0 x13_1).f1.f1), .int .i64 ((rd_T27 l0 x13_1).f2), .int .i64 0, .bool false]) ?_ 5 _ rfl; (with_reducible repeat (first | refine blk_drewN ?_ _ | refine blk_drew ?_ | refine blk_alloc ?_ _)); refine blk_put (cs := #[.int .i64 ((rd_T27 l0 x13_1).f0.f0), .int .i64 ((rd_T27 l0 x13_1).f0.f1), .int .i64 ((rd_T27 l0 x13_1).f1.f0), .int .i64 ((rd_T27 l0 x13_1).f1.f1), .int .i64 0, .int .i64 0, .bool false]) ?_ 4 _ rfl; (with_reducible repeat (first | refine blk_drewN ?_ _ | refine blk_drew ?_ | refine blk_alloc ?_ _)); refine blk_put (cs := #[.int .i64 ((rd_T27 l0 x13_1).f0.f0), .int .i64 ((rd_T27 l0 x13_1).f0.f1), .int .i64 ((rd_T27 l0 x13_1).f1.f0), .int .i64 0, .int .i64 0, .int .i64 0, .bool false]) ?_ 3 _ rfl; (with_reducible repeat (first | refine blk_drewN ?_ _ | refine blk_drew ?_ | refine blk_alloc ?_ _)); refine blk_put (cs := #[.int .i64 ((rd_T27 l0 x13_1).f0.f0), .int .i64 ((rd_T27 l0 x13_1).f0.f1), .int .i64 0, .int .i64 0, .int .i64 0, .int .i64 0, .bool false]) ?_ 2 _ rfl; (with_reducible repeat (first | refine blk_drewN ?_ _ | refine blk_drew ?_ | refine blk_alloc ?_ _)); refine blk_put (cs := #[.int .i64 ((rd_T27 l0 x13_1).f0.f0), .int .i64 0, .int .i64 0, .int .i64 0, .int .i64 0, .int .i64 0, .bool false]) ?_ 1 _ rfl; (with_reducible repeat (first | refine blk_drewN ?_ _ | refine blk_drew ?_ | refine blk_alloc ?_ _)); refine blk_put (cs := #[.int .i64 0, .int .i64 0, .int .i64 0, .int .i64 0, .int .i64 0, .int .i64 0, .bool false]) ?_ 0 _ rfl; (with_reducible repeat (first | refine blk_drewN ?_ _ | refine blk_drew ?_ | refine blk_alloc ?_ _)); exact BK105.out) hb); have n2_ := Aside0.mk (below_step (by repeat (first | (with_reducible first | exact HB.out | apply below_alloc | apply pw_below_drewN | apply below_drew1 | refine below_set ?_ GE105.out) | exact HB.out)) hb); clear HO_6; clear BK105; clear HB; have HO_6 := n0_; have BK105 := n1_; have HB := n2_; clear n0_ n1_ n2_; (try clear hb); (try clear hb2); (try clear hk); (try clear hi)) | ((with_reducible refine gate_builtin (b := .append) (xs := #[.tmp 28, .tmp 30]) rfl ?_); at_builtin; refine Kd.R_append (Kd.int .i64) (w0 := w) w.heap.size rfl (.tmp 28) (.tmp 30) 58 3 (.int .i64 0) 8 rfl Tryd.underlying58 info3 rfl (by decide) (by omega) u6 x6_1 t106 [.int .i64 t106] (fun _ => True) (fun _ => False) rfl rfl ?aP (fun _ hk => hk.elim) ?aF ?aO ?aB ?aS ?aL ?_; (case aP => exact rfl); (case aB => exact (by repeat (first | (with_reducible first | exact HB.out | apply below_alloc | apply pw_below_drewN | apply below_drew1 | refine below_set ?_ GE105.out) | exact HB.out))); (case aF => exact (fun _ _ => trivial)); (case aO => exact (by (with_reducible repeat (first | apply Kd.R_alloc | apply Kd.R_drewN | apply Kd.R_drew)); exact HO_6.out)); (case aS => exact (below_size (by repeat (first | (with_reducible first | exact HB.out | apply below_alloc | apply pw_below_drewN | apply below_drew1 | refine below_set ?_ GE105.out) | exact HB.out)))); (case aL => have := LMc7.out; omega); intro v109 w11 ho hb hg hat; rw [← Ny108.out] at ho; have n0_ := Aside0.mk (blk_grown (g := gb105) (o := .cells #[.int .i64 ((rd_T27 l0 x13_1).f0.f0), .int .i64 ((rd_T27 l0 x13_1).f0.f1), .int .i64 ((rd_T27 l0 x13_1).f1.f0), .int .i64 ((rd_T27 l0 x13_1).f1.f1), .int .i64 ((rd_T27 l0 x13_1).f2), .int .i64 ((rd_T27 l0 x13_1).f3), .bool ((rd_T27 l0 x13_1).f4)] 27 (0, 0)) (by (with_reducible repeat (first | refine blk_drewN ?_ _ | refine blk_drew ?_ | refine blk_alloc ?_ _)); exact BK105.out) hg (Kd.R_ne HO_6.out BK105.out (by decide))); have n1_ := Aside0.mk (hb); have n2_ := Aside0.mk (ho); clear BK105; clear HB; clear HO_6; have BK105 := n0_; have HB := n1_; have HO110 := n2_; clear n0_ n1_ n2_; clear ho hb hg hat))
                go_roundg k1
                case measure => have := HK1.out; omega
                case rel => exact ⟨(y108), (wrap64 (x13_1 + 1)), (by first | rfl | (simp; done) | (simp [*]; done)), H', ⟨by have := HK1.out; omega⟩, ⟨by (with_reducible repeat (first | apply Kd.R_alloc | apply Kd.R_drewN | apply Kd.R_drew)); exact HO110.out⟩, ⟨by repeat (first | (with_reducible first | exact HB.out | apply below_alloc | apply pw_below_drewN | apply below_drew1 | refine below_set ?_ GE105.out) | exact HB.out)⟩⟩
              · rw [if_neg c7] at H
                exact absurd H (by simp)
            · rw [if_neg c6] at H
              have c6b0 : (t107 == 0) = false := beq_eq_false_iff_ne.mpr c6
              have c6b1 : (t107 != 0) = true := bne_iff_ne.mpr c6
              simp only [Option.some.injEq, Prod.mk.injEq] at H
              obtain ⟨rfl, rfl⟩ := H
              have p104 : 0 ≤ (x13_1 : Int) := of_decide_eq_true (by first | (with_reducible assumption) | assumption)
              have q104 : x13_1 < (l0.length : Int) := of_decide_eq_true (by first | (with_reducible assumption) | assumption)
              obtain ⟨ad104, e104, hx104_0, hx104_1, hx104_2, hx104_3, hx104_4, hx104_5, hx104_6⟩ := at_T27 HR0.out x13_1 p104 q104
              cases e104
              replace hx104_0 := (HB.out.cell (World.block_lt_of_cell? w _ hx104_0)).trans hx104_0
              replace hx104_1 := (HB.out.cell (World.block_lt_of_cell? w _ hx104_1)).trans hx104_1
              replace hx104_2 := (HB.out.cell (World.block_lt_of_cell? w _ hx104_2)).trans hx104_2
              replace hx104_3 := (HB.out.cell (World.block_lt_of_cell? w _ hx104_3)).trans hx104_3
              replace hx104_4 := (HB.out.cell (World.block_lt_of_cell? w _ hx104_4)).trans hx104_4
              replace hx104_5 := (HB.out.cell (World.block_lt_of_cell? w _ hx104_5)).trans hx104_5
              replace hx104_6 := (HB.out.cell (World.block_lt_of_cell? w _ hx104_6)).trans hx104_6
              replace p104 := eq_true p104
              replace q104 := eq_true q104
              go_wp2_with (first | ((with_reducible refine gate_dst (N := 8) rfl ?_); refine box_event ?hg (N := 8) ?hd (cs := #[.int .i64 0, .int .i64 0, .int .i64 0, .int .i64 0, .int .i64 0, .int .i64 0, .bool false]) (t := 27) ?hr ?_; (case hd => rfl); (case hg => rfl); (case hr => first | (go_simp; done) | (go_simp; rfl)); intro gb105 hg w12 hbox hb; have n0_ := Aside0.mk (Kd.R_below (by (with_reducible repeat (first | apply Kd.R_alloc | apply Kd.R_drewN | apply Kd.R_drew)); exact HO_6.out) hb); have n1_ := Aside0.mk (below_step (by repeat (first | (with_reducible first | exact HB.out | apply below_alloc | apply pw_below_drewN | apply below_drew1) | exact HB.out)) hb); have n2_ := Aside0.mk (hbox); have n3_ := Aside0.mk ((by rw [hg]; exact (below_size (by repeat (first | (with_reducible first | exact HB.out | apply below_alloc | apply pw_below_drewN | apply below_drew1) | exact HB.out))) : w.heap.size ≤ gb105)); have n4_ := Aside0.mk ((by rw [hg]; exact (below_size (by repeat (first | (with_reducible first | exact HB.out | apply below_alloc | apply pw_below_drewN | apply below_drew1) | exact HB.out))) : w.heap.size ≤ gb105)); clear HO_6; clear HB; have HO_6 := n0_; have HB := n1_; have BK105 := n2_; have GW105 := n3_; have GE105 := n4_; clear n0_ n1_ n2_ n3_ n4_; clear hb hbox hg; have hcz13_0 : w12.cell? ⟨gb105, 0, none⟩ = some (.int .i64 0) := (blk_cell BK105.out 0).trans rfl; have hcz13_1 : w12.cell? ⟨gb105, 1, none⟩ = some (.int .i64 0) := (blk_cell BK105.out 1).trans rfl; have hcz13_2 : w12.cell? ⟨gb105, 2, none⟩ = some (.int .i64 0) := (blk_cell BK105.out 2).trans rfl; have hcz13_3 : w12.cell? ⟨gb105, 3, none⟩ = some (.int .i64 0) := (blk_cell BK105.out 3).trans rfl; have hcz13_4 : w12.cell? ⟨gb105, 4, none⟩ = some (.int .i64 0) := (blk_cell BK105.out 4).trans rfl; have hcz13_5 : w12.cell? ⟨gb105, 5, none⟩ = some (.int .i64 0) := (blk_cell BK105.out 5).trans rfl; have hcz13_6 : w12.cell? ⟨gb105, 6, none⟩ = some (.bool false) := (blk_cell BK105.out 6).trans rfl; have hfz13_0 := blk_frozen BK105.out 0; have hfz13_1 := blk_frozen BK105.out 1; have hfz13_2 := blk_frozen BK105.out 2; have hfz13_3 := blk_frozen BK105.out 3; have hfz13_4 := blk_frozen BK105.out 4; have hfz13_5 := blk_frozen BK105.out 5; have hfz13_6 := blk_frozen BK105.out 6) | (go_at_call 107; (with_reducible refine (gauge_virtual_1.calls k1 x13_1 ((rd_T27 l0 x13_1).f0.f0) ((rd_T27 l0 x13_1).f0.f1) ((rd_T27 l0 x13_1).f1.f0) ((rd_T27 l0 x13_1).f1.f1) ((rd_T27 l0 x13_1).f2) ((rd_T27 l0 x13_1).f3) ((rd_T27 l0 x13_1).f4) t106 t107 _ A5.out (by exact sig_below HS.out (by repeat (first | (with_reducible first | exact HB.out | apply below_alloc | apply pw_below_drewN | apply below_drew1 | refine below_set ?_ GE105.out) | exact HB.out)))).mono ?_); rintro e w14 ⟨rfl, hb⟩; skip; have n0_ := Aside0.mk (Kd.R_below (by (with_reducible repeat (first | apply Kd.R_alloc | apply Kd.R_drewN | apply Kd.R_drew)); exact (Kd.R_mono (Kd.R_far (p := ⟨gb105, 6, none⟩) (Kd.R_far (p := ⟨gb105, 5, none⟩) (Kd.R_far (p := ⟨gb105, 4, none⟩) (Kd.R_far (p := ⟨gb105, 3, none⟩) (Kd.R_far (p := ⟨gb105, 2, none⟩) (Kd.R_far (p := ⟨gb105, 1, none⟩) (Kd.R_far (p := ⟨gb105, 0, none⟩) (Kd.R_types HO_6.out BK105.out (by decide)) (fun _ hk => hk.2) (.int .i64 ((rd_T27 l0 x13_1).f0.f0))) (fun _ hk => hk.2) (.int .i64 ((rd_T27 l0 x13_1).f0.f1))) (fun _ hk => hk.2) (.int .i64 ((rd_T27 l0 x13_1).f1.f0))) (fun _ hk => hk.2) (.int .i64 ((rd_T27 l0 x13_1).f1.f1))) (fun _ hk => hk.2) (.int .i64 ((rd_T27 l0 x13_1).f2))) (fun _ hk => hk.2) (.int .i64 ((rd_T27 l0 x13_1).f3))) (fun _ hk => hk.2) (.bool ((rd_T27 l0 x13_1).f4))) (fun _ h_ => h_.1))) hb); have n1_ := Aside0.mk (blk_below (g := gb105) (o := .cells #[.int .i64 ((rd_T27 l0 x13_1).f0.f0), .int .i64 ((rd_T27 l0 x13_1).f0.f1), .int .i64 ((rd_T27 l0 x13_1).f1.f0), .int .i64 ((rd_T27 l0 x13_1).f1.f1), .int .i64 ((rd_T27 l0 x13_1).f2), .int .i64 ((rd_T27 l0 x13_1).f3), .bool ((rd_T27 l0 x13_1).f4)] 27 (0, 0)) (by (with_reducible repeat (first | refine blk_drewN ?_ _ | refine blk_drew ?_ | refine blk_alloc ?_ _)); refine blk_put (cs := #[.int .i64 ((rd_T27 l0 x13_1).f0.f0), .int .i64 ((rd_T27 l0 x13_1).f0.f1), .int .i64 ((rd_T27 l0 x13_1).f1.f0), .int .i64 ((rd_T27 l0 x13_1).f1.f1), .int .i64 ((rd_T27 l0 x13_1).f2), .int .i64 ((rd_T27 l0 x13_1).f3), .bool false]) ?_ 6 _ rfl; (with_reducible repeat (first | refine blk_drewN ?_ _ | refine blk_drew ?_ | refine blk_alloc ?_ _)); refine blk_put (cs := #[.int .i64 ((rd_T27 l0 x13_1).f0.f0), .int .i64 ((rd_T27 l0 x13_1).f0.f1), .int .i64 ((rd_T27 l0 x13_1).f1.f0), .int .i64 ((rd_T27 l0 x13_1).f1.f1), .int .i64 ((rd_T27 l0 x13_1).f2), .int .i64 0, .bool false]) ?_ 5 _ rfl; (with_reducible repeat (first | refine blk_drewN ?_ _ | refine blk_drew ?_ | refine blk_alloc ?_ _)); refine blk_put (cs := #[.int .i64 ((rd_T27 l0 x13_1).f0.f0), .int .i64 ((rd_T27 l0 x13_1).f0.f1), .int .i64 ((rd_T27 l0 x13_1).f1.f0), .int .i64 ((rd_T27 l0 x13_1).f1.f1), .int .i64 0, .int .i64 0, .bool false]) ?_ 4 _ rfl; (with_reducible repeat (first | refine blk_drewN ?_ _ | refine blk_drew ?_ | refine blk_alloc ?_ _)); refine blk_put (cs := #[.int .i64 ((rd_T27 l0 x13_1).f0.f0), .int .i64 ((rd_T27 l0 x13_1).f0.f1), .int .i64 ((rd_T27 l0 x13_1).f1.f0), .int .i64 0, .int .i64 0, .int .i64 0, .bool false]) ?_ 3 _ rfl; (with_reducible repeat (first | refine blk_drewN ?_ _ | refine blk_drew ?_ | refine blk_alloc ?_ _)); refine blk_put (cs := #[.int .i64 ((rd_T27 l0 x13_1).f0.f0), .int .i64 ((rd_T27 l0 x13_1).f0.f1), .int .i64 0, .int .i64 0, .int .i64 0, .int .i64 0, .bool false]) ?_ 2 _ rfl; (with_reducible repeat (first | refine blk_drewN ?_ _ | refine blk_drew ?_ | refine blk_alloc ?_ _)); refine blk_put (cs := #[.int .i64 ((rd_T27 l0 x13_1).f0.f0), .int .i64 0, .int .i64 0, .int .i64 0, .int .i64 0, .int .i64 0, .bool false]) ?_ 1 _ rfl; (with_reducible repeat (first | refine blk_drewN ?_ _ | refine blk_drew ?_ | refine blk_alloc ?_ _)); refine blk_put (cs := #[.int .i64 0, .int .i64 0, .int .i64 0, .int .i64 0, .int .i64 0, .int .i64 0, .bool false]) ?_ 0 _ rfl; (with_reducible repeat (first | refine blk_drewN ?_ _ | refine blk_drew ?_ | refine blk_alloc ?_ _)); exact BK105.out) hb); have n2_ := Aside0.mk (below_step (by repeat (first | (with_reducible first | exact HB.out | apply below_alloc | apply pw_below_drewN | apply below_drew1 | refine below_set ?_ GE105.out) | exact HB.out)) hb); clear HO_6; clear BK105; clear HB; have HO_6 := n0_; have BK105 := n1_; have HB := n2_; clear n0_ n1_ n2_; (try clear hb); (try clear hb2); (try clear hk); (try clear hi)))
              go_ret2
              exact ⟨_, by first | rfl | (simp [errW_none, errW_some] <;> rfl) | (simp [*, errW_none, errW_some] <;> rfl), by first | exact Kd.R_nil _ _ _ _ _ | exact Kd.N_nil _ _ _ _ _ | exact Kd.V_nil _ _ _ _ _ | exact Kd.Q_nil _ _ _ _ _ | exact Kd.S_nil _ _ _ _ _, by repeat (first | (with_reducible first | exact HB.out | apply below_alloc | apply pw_below_drewN | apply below_drew1 | refine below_set ?_ GE105.out) | exact HB.out)⟩
          · rw [if_neg c4] at H
            exact absurd H (by simp)
        · rw [if_neg c3] at H
          exact absurd H (by simp)
      · rw [if_neg c2] at H
        have c2b0 : decide (x13_1 < (l0.length : Int)) = false := decide_eq_false c2
        clear c2
        simp only [Option.some.injEq, Prod.mk.injEq] at H
        obtain ⟨rfl, rfl⟩ := H
        go_wp2
        go_ret2
        exact ⟨_, by first | rfl | (simp [errW_none, errW_some] <;> rfl) | (simp [*, errW_none, errW_some] <;> rfl), by (with_reducible repeat (first | apply Kd.R_alloc | apply Kd.R_drewN | apply Kd.R_drew)); exact HO_6.out, by repeat (first | (with_reducible first | exact HB.out | apply below_alloc | apply pw_below_drewN | apply below_drew1) | exact HB.out)⟩
end Go.Proofs.YtjemaonejkepcaaDoor.G
namespace Go.Proofs.YtjemaonejkepcaaDoor.G
open Go.Proofs.YtjemaonejkepcaaDoor.B
open Go.RowKit Go.Proofs.YtjemaonejkepcaaDoorW.PrintWords Go.Proofs.YtjemaonejkepcaaDoorW.PrintLast Go.Proofs.YtjemaonejkepcaaDoorW.PrintMore
attribute [local go_sem] max2_int min2_int max_two min_two max_three min_three max_four min_four   -- for this text's walks alone
set_option linter.unusedVariables false
set_option linter.unusedSimpArgs false
def gauge_virtual.f (k : Nat) (l0 : List (S27)) : Option (List Int × Int) := if (l0.length : Int) = 0 then (some (([] : List Int), 13)) else ((gauge_few.f (l0.length : Int)).bind fun t111 => (if t111 = 0 then ((api_Target_int.f k l0).bind fun bt112 => (some (bt112.1, bt112.2))) else (some (([] : List Int), t111))))
theorem gauge_virtual.mono : ∀ a0 k, LeO (gauge_virtual.f k a0) (gauge_virtual.f (k + 1) a0) := by
  intro a0 k
  unfold gauge_virtual.f
  repeat' first
      | (with_reducible exact api_Target_int.mono _ _)
      | (with_reducible exact LeO.refl _)
      | (with_reducible exact LeO.none _)
      | (with_reducible refine LeO.ite ?_ ?_)
      | (with_reducible refine LeO.bind ?_ (fun _ => ?_))
      | exact api_Target_int.mono _ _
      | exact LeO.none _
      | refine LeO.ite ?_ ?_
      | refine LeO.bind ?_ (fun _ => ?_)
set_option maxHeartbeats 8000000 in
set_option maxRecDepth 100000 in
theorem gauge_virtual.calls (k : Nat) (A0 : Option Addr) (c0 : Nat) (l0 : List (S27)) (r1 : List Int) (r2 : Int) (w : World) (hr0 : Kd.C k27 w A0 l0.length l0) (hc0 : l0.length ≤ c0) (h : gauge_virtual.f k l0 = some (r1, r2)) (hS : SignsAt w) :
    Calls Tryd.prog 80 #[.slice A0 l0.length c0] w fun e w' => ∃ v0_ : Value, e = .returned (.tuple #[v0_, .int .i64 r2]) ∧ Kd.R (Kd.int .i64) 3 w' w.heap.size (fun _ => True) v0_ r1 ∧ Below w.heap.size w w' := by
  have HS := Aside0.mk hS
  clear hS
  have HR0 := Aside0.mk hr0
  have HC0 := Aside0.mk hc0
  clear hr0 hc0
  have HB := Aside0.mk (Below.refl w.heap.size w)
  have H : (if (l0.length : Int) = 0 then (some (([] : List Int), 13)) else ((gauge_few.f (l0.length : Int)).bind fun t111 => (if t111 = 0 then ((api_Target_int.f k l0).bind fun bt112 => (some (bt112.1, bt112.2))) else (some (([] : List Int), t111))))) = some (r1, r2) := h
  clear h
  by_cases c2 : (l0.length : Int) = 0
  · rw [if_pos c2] at H
    have c2b0 : ((l0.length : Int) == 0) = true := beq_iff_eq.mpr c2
    have c2b1 : ((l0.length : Int) != 0) = false := bne_eq_false_iff_eq.mpr c2
    clear c2
    simp only [Option.some.injEq, Prod.mk.injEq] at H
    obtain ⟨rfl, rfl⟩ := H
    go_enter Tryd.func80, Tryd.ntmps80
    go_wp2
    go_ret2
    exact ⟨_, by first | rfl | (simp [errW_none, errW_some] <;> rfl) | (simp [*, errW_none, errW_some] <;> rfl), by first | exact Kd.R_nil _ _ _ _ _ | exact Kd.N_nil _ _ _ _ _ | exact Kd.V_nil _ _ _ _ _ | exact Kd.Q_nil _ _ _ _ _ | exact Kd.S_nil _ _ _ _ _, by repeat (first | (with_reducible first | exact HB.out | apply below_alloc | apply pw_below_drewN | apply below_drew1) | exact HB.out)⟩
  · rw [if_neg c2] at H
    have c2b0 : ((l0.length : Int) == 0) = false := beq_eq_false_iff_ne.mpr c2
    have c2b1 : ((l0.length : Int) != 0) = true := bne_iff_ne.mpr c2
    have c2b2 : ¬ (l0 = []) := fun h_ => c2 (by rw [h_]; rfl)
    replace H := Option.bind_eq_some_iff.mp H
    obtain ⟨t111, A30, H⟩ := H
    replace H : (if t111 = 0 then ((api_Target_int.f k l0).bind fun bt112 => (some (bt112.1, bt112.2))) else (some (([] : List Int), t111))) = some (r1, r2) := H
    have A3 := Aside0.mk A30
    clear A30
    by_cases c4 : t111 = 0
    · rw [if_pos c4] at H
      have c4b0 : (t111 == 0) = true := beq_iff_eq.mpr c4
      have c4b1 : (t111 != 0) = false := bne_eq_false_iff_eq.mpr c4
      clear c4
      replace H := Option.bind_eq_some_iff.mp H
      obtain ⟨⟨t112, t113⟩, A50, H⟩ := H
      replace H : (some (t112, t113)) = some (r1, r2) := H
      have A5 := Aside0.mk A50
      clear A50
      simp only [Option.some.injEq, Prod.mk.injEq] at H
      obtain ⟨rfl, rfl⟩ := H
      go_enter Tryd.func80, Tryd.ntmps80
      go_wp2_with (first | ((with_reducible refine gate_callee (f := 84) rfl ?_); refine goesL_ (some 10) rfl rfl Tryd.func84 (by kernel_rfl) rfl #[.int .i64 (l0.length : Int)] rfl (by (try simp only [List.map_toArray, List.map_cons, List.map_nil]); first | done | rfl | (simp only [List.length_drop, List.length_take]; rfl)) ?_; (with_reducible refine (gauge_few.calls (l0.length : Int) t111 _ A3.out).mono ?_); rintro e w' ⟨rfl, ⟨nd, rfl⟩⟩; refine ⟨_, rfl, ?_⟩) | (go_at_call 106; (with_reducible refine (api_Target_int.calls k _ _ l0 t112 t113 _ ?side1 ?side2 A5.out (by exact sig_below HS.out (by repeat (first | (with_reducible first | exact HB.out | apply below_alloc | apply pw_below_drewN | apply below_drew1 | fail) | exact HB.out)))).mono ?_); (case side1 => repeat (first | exact HR0.out | (with_reducible refine Kd.C_alloc ?_ _) | (with_reducible refine Kd.C_drewN ?_ _) | (with_reducible refine Kd.C_drew ?_))); (case side2 => exact HC0.out); rintro e w6 ⟨v114, rfl, ho0, hb⟩; skip; have n0_ := Aside0.mk (Kd.R_lower ho0 (below_size (by repeat (first | (with_reducible first | exact HB.out | apply below_alloc | apply pw_below_drewN | apply below_drew1) | exact HB.out)))); have n1_ := Aside0.mk (below_step (by repeat (first | (with_reducible first | exact HB.out | apply below_alloc | apply pw_below_drewN | apply below_drew1) | exact HB.out)) hb); clear HB; have HO115 := n0_; have HB := n1_; clear n0_ n1_; (try clear hb); (try clear hb2); (try clear hk); (try clear hi); (try clear ho0)))
      go_ret2
      exact ⟨_, by first | rfl | (simp [errW_none, errW_some] <;> rfl) | (simp [*, errW_none, errW_some] <;> rfl), by (with_reducible repeat (first | apply Kd.R_alloc | apply Kd.R_drewN | apply Kd.R_drew)); exact HO115.out, by repeat (first | (with_reducible first | exact HB.out | apply below_alloc | apply pw_below_drewN | apply below_drew1) | exact HB.out)⟩
    · rw [if_neg c4] at H
      have c4b0 : (t111 == 0) = false := beq_eq_false_iff_ne.mpr c4
      have c4b1 : (t111 != 0) = true := bne_iff_ne.mpr c4
      simp only [Option.some.injEq, Prod.mk.injEq] at H
      obtain ⟨rfl, rfl⟩ := H
      go_enter Tryd.func80, Tryd.ntmps80
      go_wp2_with (first | ((with_reducible refine gate_callee (f := 84) rfl ?_); refine goesL_ (some 10) rfl rfl Tryd.func84 (by kernel_rfl) rfl #[.int .i64 (l0.length : Int)] rfl (by (try simp only [List.map_toArray, List.map_cons, List.map_nil]); first | done | rfl | (simp only [List.length_drop, List.length_take]; rfl)) ?_; (with_reducible refine (gauge_few.calls (l0.length : Int) t111 _ A3.out).mono ?_); rintro e w' ⟨rfl, ⟨nd, rfl⟩⟩; refine ⟨_, rfl, ?_⟩))
      go_ret2
      exact ⟨_, by first | rfl | (simp [errW_none, errW_some] <;> rfl) | (simp [*, errW_none, errW_some] <;> rfl), by first | exact Kd.R_nil _ _ _ _ _ | exact Kd.N_nil _ _ _ _ _ | exact Kd.V_nil _ _ _ _ _ | exact Kd.Q_nil _ _ _ _ _ | exact Kd.S_nil _ _ _ _ _, by repeat (first | (with_reducible first | exact HB.out | apply below_alloc | apply pw_below_drewN | apply below_drew1) | exact HB.out)⟩
end Go.Proofs.YtjemaonejkepcaaDoor.G
namespace Go.Proofs.YtjemaonejkepcaaDoor.G
set_option linter.unusedVariables false
set_option linter.unusedSimpArgs false
open Go.Proofs.YtjemaonejkepcaaDoor.B
open Go.RowKit Go.Proofs.YtjemaonejkepcaaDoorW.PrintWords
theorem drop_rd {α : Type} (l : List α) (d : α) {i : Int} (h0 : 0 ≤ i) (h1 : i < (l.length : Int)) : l.drop i.toNat = l.getD i.toNat d :: l.drop (i + 1).toNat := by
  have e : (i + 1).toNat = i.toNat + 1 := by omega
  have h : i.toNat < l.length := by omega
  rw [e, List.drop_eq_getElem_cons h]
  simp [List.getD, h]
theorem drop_end {α : Type} (l : List α) {i : Int} (h1 : (l.length : Int) ≤ i) : l.drop i.toNat = [] := List.drop_eq_nil_of_le (by omega)
theorem up64 {i : Int} (h0 : 0 ≤ i) (h1 : i < 1000000) : wrap64 (i + 1) = i + 1 := w64 (by omega)
theorem getD_map {α β : Type} (f : α → β) (l : List α) (a : α) (b : β) {i : Int} (h1 : i.toNat < l.length) : (l.map f).getD i.toNat b = f (l.getD i.toNat a) := by
  simp [List.getD, h1]
/-- The error of a target as an element's target; its virtual size. -/
def tc (t : S27) : Int := chk t.f0.f0 t.f0.f1 t.f1.f0 t.f1.f1 t.f2 t.f3 t.f4
def tv (t : S27) : Int := vir t.f1.f0 t.f1.f1 t.f2 t.f3 t.f4
def te (t : S27) : Int := if tc t = 0 then (if t.f3 = 1 then 0 else 14) else tc t
/-- The first error. -/
def fe : List S27 → Int
  | [] => 0
  | t :: r => if te t = 0 then fe r else te t
theorem fe_ok {t : S27} {r : List S27} (h : te t = 0) : fe (t :: r) = fe r := by show (if te t = 0 then fe r else te t) = _; rw [if_pos h]
theorem fe_bad {t : S27} {r : List S27} (h : ¬ te t = 0) : fe (t :: r) = te t := by show (if te t = 0 then fe r else te t) = _; rw [if_neg h]
/-- The error of targets. -/
def ce (l : List S27) : Int := if l.length = 0 then 13 else if 16 < l.length then 5 else fe l
theorem te_ok {t : S27} (h : te t = 0) : Okt t.f0.f0 t.f0.f1 t.f1.f0 t.f1.f1 t.f2 t.f3 t.f4 ∧ t.f3 = 1 := by
  unfold te at h
  by_cases hc : tc t = 0
  · rw [if_pos hc] at h
    by_cases hm : t.f3 = 1
    · exact ⟨chk_ok.1 hc, hm⟩
    · rw [if_neg hm] at h; omega
  · rw [if_neg hc] at h; exact absurd h hc
theorem fe_mem : ∀ {l : List S27}, fe l = 0 → ∀ t ∈ l, te t = 0
  | [], _, t, ht => by cases ht
  | a :: r, h, t, ht => by
    unfold fe at h
    by_cases ha : te a = 0
    · rw [if_pos ha] at h
      rcases List.mem_cons.1 ht with rfl | ht
      · exact ha
      · exact fe_mem h t ht
    · rw [if_neg ha] at h; exact absurd h ha
theorem virtual_1 (k : Nat) (hk : 3 ≤ k) (i : Int) (t : S27) : ∃ v, gauge_virtual_1.f k i t.f0.f0 t.f0.f1 t.f1.f0 t.f1.f1 t.f2 t.f3 t.f4 = some (v, te t) ∧ (te t = 0 → v = tv t) := by
  unfold gauge_virtual_1.f te
  by_cases hc : tc t = 0
  · rw [virtual_ok k hk (chk_ok.1 hc), if_pos hc]
    simp only [Option.bind_some, if_true]
    by_cases hm : t.f3 = 1
    · rw [if_pos hm, if_pos hm]; exact ⟨_, rfl, fun _ => rfl⟩
    · rw [if_neg hm, if_neg hm]; exact ⟨_, rfl, fun h => by omega⟩
  · rw [virtual_bad k hk hc, if_neg hc]
    simp only [Option.bind_some]
    rw [if_neg (show ¬ chk t.f0.f0 t.f0.f1 t.f1.f0 t.f1.f1 t.f2 t.f3 t.f4 = 0 from hc)]
    exact ⟨_, rfl, fun h => absurd h hc⟩
theorem tint_l0 (l : List S27) (hn : l.length ≤ 1000) (d : Nat) : ∀ (k : Nat) (acc : List Int) (i : Int), 0 ≤ i → (l.length : Int) - i = d → acc.length + d ≤ 1000 → d + 4 ≤ k →
    api_Target_int.l0 k acc l (l.length : Int) i = some (if fe (l.drop i.toNat) = 0 then (acc ++ (l.drop i.toNat).map tv, 0) else ([], fe (l.drop i.toNat))) := by
  induction d with
  | zero =>
    intro k acc i h0 hd ha hk
    obtain ⟨k, rfl⟩ : ∃ m, k = m + 1 := ⟨k - 1, by omega⟩
    rw [drop_end l (by omega)]
    simp only [api_Target_int.l0]
    rw [if_neg (by omega)]; simp [fe]
  | succ d ih =>
    intro k acc i h0 hd ha hk
    obtain ⟨k, rfl⟩ : ∃ m, k = m + 1 := ⟨k - 1, by omega⟩
    have h1 : i < (l.length : Int) := by omega
    rw [drop_rd l z27 h0 h1]
    simp only [api_Target_int.l0]
    rw [if_pos h1, if_pos h0, if_pos h1]
    obtain ⟨v, hv, he⟩ := virtual_1 k (by omega) i (rd_T27 l i)
    rw [hv]
    simp only [Option.bind_some]
    by_cases ht : te (rd_T27 l i) = 0
    · rw [if_pos ht, if_pos (by omega), up64 h0 (by omega), ih k _ (i + 1) (by omega) (by omega) (by simp; omega) (by omega), he ht, fe_ok (t := l.getD i.toNat z27) ht]
      by_cases hf : fe (l.drop (i + 1).toNat) = 0
      · rw [if_pos hf, if_pos hf]; simp [rd_T27]
      · rw [if_neg hf, if_neg hf]
    · rw [if_neg ht, fe_bad (t := l.getD i.toNat z27) ht, if_neg (show ¬ te (l.getD i.toNat z27) = 0 from ht)]; rfl
theorem gvirtual (k : Nat) (hk : 40 ≤ k) (l : List S27) : gauge_virtual.f k l = some (if ce l = 0 then (l.map tv, 0) else ([], ce l)) := by
  unfold gauge_virtual.f ce
  by_cases h0 : l.length = 0
  · rw [if_pos (by omega), if_pos h0]; rfl
  · rw [if_neg (by omega), if_neg h0]
    by_cases h1 : 16 < l.length
    · simp only [gauge_few.f]
      rw [if_pos (by omega), if_pos h1]; rfl
    · simp only [gauge_few.f]
      rw [if_neg (by omega), if_neg h1]
      simp only [Option.bind_some, if_true, api_Target_int.f]
      rw [tint_l0 l (by omega) l.length k [] 0 (by omega) (by omega) (by simp; omega) (by omega)]
      simp
theorem ce_ok {l : List S27} (h : ce l = 0) : 1 ≤ l.length ∧ l.length ≤ 16 ∧ ∀ t ∈ l, te t = 0 := by
  unfold ce at h
  by_cases h0 : l.length = 0
  · rw [if_pos h0] at h; omega
  · rw [if_neg h0] at h
    by_cases h1 : 16 < l.length
    · rw [if_pos h1] at h; omega
    · rw [if_neg h1] at h
      exact ⟨by omega, by omega, fe_mem h⟩
theorem tv_range {t : S27} (h : te t = 0) : -200000 ≤ tv t ∧ tv t ≤ 200000 := by
  obtain ⟨⟨h1, h2, h3, h4, h5, h6, h7, h8, h9⟩, hm⟩ := te_ok h
  unfold tv vir
  split <;> omega
end Go.Proofs.YtjemaonejkepcaaDoor.G
namespace Go.Proofs.YtjemaonejkepcaaDoor.G
open Go.Proofs.YtjemaonejkepcaaDoor.B
open Go.RowKit Go.Proofs.YtjemaonejkepcaaDoorW.PrintWords Go.Proofs.YtjemaonejkepcaaDoorW.PrintLast Go.Proofs.YtjemaonejkepcaaDoorW.PrintMore
attribute [local go_sem] max2_int min2_int max_two min_two max_three min_three max_four min_four   -- for this text's walks alone
set_option linter.unusedVariables false
set_option linter.unusedSimpArgs false
/-- What Design's closure knows: the virtual sizes, and what the tools are made by; and where it captured them. -/
class Dat82 where
  sz : List Int
  wear : Int
  make : Int
class Adr82 where
  gs : Nat
  gm : Nat
  A : Option Addr
  c : Nat
def CapAt82 [q : Dat82] [a : Adr82] (w : World) : Prop := w.heap[a.gs]? = some (.cells #[.slice a.A q.sz.length a.c] 58 (0, 0)) ∧ w.heap[a.gm]? = some (.cells #[.int .i64 q.wear, .int .i64 q.make] 44 (0, 0)) ∧ Kd.C (Kd.int .i64) w a.A q.sz.length q.sz
theorem cap82_below [Dat82] [Adr82] {w w' : World} (h : CapAt82 w) (hb : Below w.heap.size w w') : CapAt82 w' := ⟨(hb.block _ (blk_lt h.1)).trans h.1, (hb.block _ (blk_lt h.2.1)).trans h.2.1, Kd.C_below h.2.2 hb⟩
def gauge_Design_1.f [q : Dat82] (a0 : Int) (x y lo hi tol mat : Int) (pin : Bool) : Option (Int × Int × Bool × Int × Int × Int) :=
  if 0 ≤ a0 then if a0 < (q.sz.length : Int) then (if pin = true then (if wrap64 (wrap64 (rd q.sz a0 - q.wear) - q.make) < 1 then some (0, 0, false, 0, 0, 14) else some (x, y, true, wrap64 (wrap64 (rd q.sz a0 - q.wear) - q.make), wrap64 (rd q.sz a0 - q.wear), 0)) else (if wrap64 (rd q.sz a0 + q.wear) < 1 then some (0, 0, false, 0, 0, 14) else some (x, y, false, wrap64 (rd q.sz a0 + q.wear), wrap64 (wrap64 (rd q.sz a0 + q.wear) + q.make), 0))) else none else none
set_option maxHeartbeats 4000000 in
set_option maxRecDepth 100000 in
theorem gauge_Design_1.calls [q : Dat82] [a : Adr82] (a0 : Int) (x y lo hi tol mat : Int) (pin : Bool) (r1 r2 : Int) (r3 : Bool) (r4 r5 r6 : Int) (w : World) (h : gauge_Design_1.f a0 x y lo hi tol mat pin = some (r1, r2, r3, r4, r5, r6)) (hS : CapAt82 w) :
    Calls Tryd.prog 82 #[.int .i64 a0, .agg #[.int .i64 x, .int .i64 y, .int .i64 lo, .int .i64 hi, .int .i64 tol, .int .i64 mat, .bool pin], .pointer (some ⟨a.gs, 0, none⟩), .pointer (some ⟨a.gm, 0, none⟩)] w fun e w' => e = .returned (.tuple #[.agg #[.int .i64 r1, .int .i64 r2, .bool r3, .int .i64 r4, .int .i64 r5], .int .i64 r6]) ∧ Below w.heap.size w w' := by
  have hu104 := Tryd.underlying104
  have hu25 := Tryd.underlying25
  have hu27 := Tryd.underlying27
  have hu44 := Tryd.underlying44
  unfold gauge_Design_1.f at h
  by_cases h0 : 0 ≤ a0
  · rw [if_pos h0] at h
    by_cases h2 : a0 < (q.sz.length : Int)
    · rw [if_pos h2] at h
      obtain ⟨ads, es, s0⟩ := Kd.at_int hS.2.2 a0 h0 h2
      have g2 : w.cell? ⟨a.gs, 0, none⟩ = some (.slice (some ads) q.sz.length a.c) := by rw [← es]; exact (blk_cell hS.1 0).trans rfl
      have m0 : w.cell? ⟨a.gm, 0, none⟩ = some (.int .i64 q.wear) := (blk_cell hS.2.1 0).trans rfl
      have m1 : w.cell? ⟨a.gm, 1, none⟩ = some (.int .i64 q.make) := (blk_cell hS.2.1 1).trans rfl
      clear hS es
      generalize rd q.sz a0 = z at *
      generalize q.sz.length = ns at *
      generalize q.wear = W at *
      generalize q.make = M at *
      cases pin with
      | true =>
        rw [if_pos rfl] at h
        go_enter Tryd.func82, Tryd.ntmps82
        go_upto_region 1 with (first
          | ((with_reducible refine gate_dst (N := 5) rfl ?_); refine box_event ?hg (N := 5) ?hd (cs := #[.int .i64 x, .int .i64 y, .int .i64 lo, .int .i64 hi, .int .i64 tol, .int .i64 mat, .bool true]) (t := 27) ?hr ?_; (case hd => rfl); (case hg => rfl); (case hr => first | (go_simp; done) | (go_simp; rfl)); intro gb hg w3 hbox hb; have HB := Aside0.mk hb; have BK := Aside0.mk hbox; replace g2 := pw_cell_below hb g2; replace s0 := pw_cell_below hb s0; replace m0 := pw_cell_below hb m0; replace m1 := pw_cell_below hb m1; have GE := Aside0.mk (by rw [hg]; exact Nat.le_refl _ : w.heap.size ≤ gb); clear hg hbox hb)
          | ((with_reducible refine gate_dst (N := 6) rfl ?_); refine box_event ?hg (N := 6) ?hd (cs := #[.int .i64 0, .int .i64 0, .bool false, .int .i64 0, .int .i64 0]) (t := 104) ?hr ?_; (case hd => rfl); (case hg => rfl); (case hr => first | (go_simp; done) | (go_simp; rfl)); intro gr hg w4 hbox hb; have N3 := Aside0.mk (by rw [hg]; exact Nat.ne_of_gt (blk_lt BK.out) : gr ≠ gb); have n0_ := Aside0.mk (below_step HB.out hb); have n1_ := Aside0.mk (blk_below BK.out hb); have GR := Aside0.mk (by rw [hg]; exact HB.out.size : w.heap.size ≤ gr); clear HB BK; have HB := n0_; have BK := n1_; clear n0_ n1_; have BR := Aside0.mk hbox; replace g2 := pw_cell_below hb g2; replace s0 := pw_cell_below hb s0; replace m0 := pw_cell_below hb m0; replace m1 := pw_cell_below hb m1; clear hg hbox hb))
        have N3 := N3.out
        have e0 : w4.cell? ⟨gb, 0, none⟩ = some (.int .i64 x) := (blk_cell BK.out 0).trans rfl
        have e1 : w4.cell? ⟨gb, 1, none⟩ = some (.int .i64 y) := (blk_cell BK.out 1).trans rfl
        have e6 : w4.cell? ⟨gb, 6, none⟩ = some (.bool true) := (blk_cell BK.out 6).trans rfl
        have v1 := World.new_ne _ _ g2
        have v2 := World.new_ne _ _ s0
        have v3 := World.new_ne _ _ m0
        have v4 := World.new_ne _ _ e0
        go_region_held3 (fun w' => w'.cell? ⟨gb, 0, none⟩ = some (.int .i64 x) ∧ w'.cell? ⟨gb, 1, none⟩ = some (.int .i64 y) ∧ w'.cell? ⟨gb, 6, none⟩ = some (.bool true) ∧ w'.cell? ⟨Adr82.gs, 0, none⟩ = some (.slice (some ads) ns Adr82.c) ∧ w'.cell? (ads.add a0.toNat) = some (.int .i64 z) ∧ w'.cell? ⟨Adr82.gm, 0, none⟩ = some (.int .i64 W) ∧ w'.cell? ⟨Adr82.gm, 1, none⟩ = some (.int .i64 M)) (go_keep) (fail)
        have hb := below_drew1 (below_alloc (Below.refl w4.heap.size w4) (.cells #[.int .i64 x, .int .i64 y, .bool true, .int .i64 (IntKind.i64.wrap (z + W)), .int .i64 (IntKind.i64.wrap (IntKind.i64.wrap (z + W) + M))] 104))
        have B8 := blk_drew (blk_new w4 (.cells #[.int .i64 x, .int .i64 y, .bool true, .int .i64 (IntKind.i64.wrap (z + W)), .int .i64 (IntKind.i64.wrap (IntKind.i64.wrap (z + W) + M))] 104))
        have GN : w.heap.size ≤ w4.heap.size := HB.out.size
        have NE : gr ≠ w4.heap.size := Nat.ne_of_lt (blk_lt BR.out)
        generalize (w4.alloc (.cells #[.int .i64 x, .int .i64 y, .bool true, .int .i64 (IntKind.i64.wrap (z + W)), .int .i64 (IntKind.i64.wrap (IntKind.i64.wrap (z + W) + M))] 104)).drew = w5 at hb B8 ⊢
        replace g2 := pw_cell_below hb g2
        replace s0 := pw_cell_below hb s0
        replace m0 := pw_cell_below hb m0
        replace m1 := pw_cell_below hb m1
        replace e0 := pw_cell_below hb e0
        replace e1 := pw_cell_below hb e1
        replace e6 := pw_cell_below hb e6
        have HB5 := below_step HB.out hb
        have BR5 := blk_below BR.out hb
        generalize w4.heap.size = n at *
        have b0 : w5.cell? ⟨n, 0, none⟩ = some (.int .i64 x) := (blk_cell B8 0).trans rfl
        have bf0 := blk_frozen B8 0
        have b1 : w5.cell? ⟨n, 1, none⟩ = some (.int .i64 y) := (blk_cell B8 1).trans rfl
        have bf1 := blk_frozen B8 1
        have b2 : w5.cell? ⟨n, 2, none⟩ = some (.bool true) := (blk_cell B8 2).trans rfl
        have bf2 := blk_frozen B8 2
        have b3 : w5.cell? ⟨n, 3, none⟩ = some (.int .i64 (IntKind.i64.wrap (z + W))) := (blk_cell B8 3).trans rfl
        have bf3 := blk_frozen B8 3
        have b4 : w5.cell? ⟨n, 4, none⟩ = some (.int .i64 (IntKind.i64.wrap (IntKind.i64.wrap (z + W) + M))) := (blk_cell B8 4).trans rfl
        have bf4 := blk_frozen B8 4
        go_wp2
        go_region_held3 (fun w' => w'.cell? ⟨Adr82.gs, 0, none⟩ = some (.slice (some ads) ns Adr82.c) ∧ w'.cell? (ads.add a0.toNat) = some (.int .i64 z) ∧ w'.cell? ⟨Adr82.gm, 0, none⟩ = some (.int .i64 W) ∧ w'.cell? ⟨Adr82.gm, 1, none⟩ = some (.int .i64 M)) (go_keep) (fail)
        have B9 := blk_drew (blk_put (blk_put B8 3 (.int .i64 (IntKind.i64.wrap (IntKind.i64.wrap (z - W) - M))) rfl) 4 (.int .i64 (IntKind.i64.wrap (z - W))) rfl)
        have BR6 := blk_drew (blk_far (blk_far BR5 (p := ⟨n, 3, none⟩) NE (.int .i64 (IntKind.i64.wrap (IntKind.i64.wrap (z - W) - M)))) (p := ⟨n, 4, none⟩) NE (.int .i64 (IntKind.i64.wrap (z - W))))
        have HB6 := below_drew1 (below_set (below_set HB5 (j := 3) (v := (.int .i64 (IntKind.i64.wrap (IntKind.i64.wrap (z - W) - M)))) GN) (j := 4) (v := (.int .i64 (IntKind.i64.wrap (z - W)))) GN)
        generalize ((w5.setCell { block := n, off := 3 } (.int .i64 (IntKind.i64.wrap (IntKind.i64.wrap (z - W) - M)))).setCell { block := n, off := 4 } (.int .i64 (IntKind.i64.wrap (z - W)))).drew = w6 at B9 BR6 HB6 ⊢
        clear g2 s0 m0 m1 e0 e1 e6 b0 b1 b2 b3 b4 bf0 bf1 bf2 bf3 bf4 B8 BR5 hb
        have c0 : w6.cell? ⟨n, 0, none⟩ = some (.int .i64 x) := (blk_cell B9 0).trans rfl
        have cf0 := blk_frozen B9 0
        have c1 : w6.cell? ⟨n, 1, none⟩ = some (.int .i64 y) := (blk_cell B9 1).trans rfl
        have cf1 := blk_frozen B9 1
        have c2 : w6.cell? ⟨n, 2, none⟩ = some (.bool true) := (blk_cell B9 2).trans rfl
        have cf2 := blk_frozen B9 2
        have c3 : w6.cell? ⟨n, 3, none⟩ = some (.int .i64 (IntKind.i64.wrap (IntKind.i64.wrap (z - W) - M))) := (blk_cell B9 3).trans rfl
        have cf3 := blk_frozen B9 3
        have c4 : w6.cell? ⟨n, 4, none⟩ = some (.int .i64 (IntKind.i64.wrap (z - W))) := (blk_cell B9 4).trans rfl
        have cf4 := blk_frozen B9 4
        have d0 : w6.cell? ⟨gr, 0, none⟩ = some (.int .i64 0) := (blk_cell BR6 0).trans rfl
        have df0 := blk_frozen BR6 0
        have d1 : w6.cell? ⟨gr, 1, none⟩ = some (.int .i64 0) := (blk_cell BR6 1).trans rfl
        have df1 := blk_frozen BR6 1
        have d2 : w6.cell? ⟨gr, 2, none⟩ = some (.bool false) := (blk_cell BR6 2).trans rfl
        have df2 := blk_frozen BR6 2
        have d3 : w6.cell? ⟨gr, 3, none⟩ = some (.int .i64 0) := (blk_cell BR6 3).trans rfl
        have df3 := blk_frozen BR6 3
        have d4 : w6.cell? ⟨gr, 4, none⟩ = some (.int .i64 0) := (blk_cell BR6 4).trans rfl
        have df4 := blk_frozen BR6 4
        clear v1 v2 v3 v4
        go_wp2
        · rw [if_pos (by assumption)] at h
          simp only [Option.some.injEq, Prod.mk.injEq] at h
          obtain ⟨rfl, rfl, rfl, rfl, rfl, rfl⟩ := h
          refine bodyPost_ret (v := .tuple #[.agg #[.int .i64 0, .int .i64 0, .bool false, .int .i64 0, .int .i64 0], .int .i64 14]) (by simp [results, Tryd.results82, go_sem, i64_w, d0, d1, d2, d3, d4]) rfl ⟨by simp only [i64_w], by repeat (first | exact HB6 | apply below_alloc | apply pw_below_drewN | apply below_drew1 | (refine below_set ?_ GR.out))⟩
        · rw [if_neg (by omega)] at h
          simp only [Option.some.injEq, Prod.mk.injEq] at h
          obtain ⟨rfl, rfl, rfl, rfl, rfl, rfl⟩ := h
          refine bodyPost_ret (v := .tuple #[.agg #[.int .i64 x, .int .i64 y, .bool true, .int .i64 (IntKind.i64.wrap (IntKind.i64.wrap (z - W) - M)), .int .i64 (IntKind.i64.wrap (z - W))], .int .i64 0]) (by simp [results, Tryd.results82, go_sem, i64_w, d0, d1, d2, d3, d4]) rfl ⟨by simp only [i64_w], by repeat (first | exact HB6 | apply below_alloc | apply pw_below_drewN | apply below_drew1 | (refine below_set ?_ GR.out))⟩
      | false =>
        rw [if_neg Bool.false_ne_true] at h
        go_enter Tryd.func82, Tryd.ntmps82
        go_upto_region 1 with (first
          | ((with_reducible refine gate_dst (N := 5) rfl ?_); refine box_event ?hg (N := 5) ?hd (cs := #[.int .i64 x, .int .i64 y, .int .i64 lo, .int .i64 hi, .int .i64 tol, .int .i64 mat, .bool false]) (t := 27) ?hr ?_; (case hd => rfl); (case hg => rfl); (case hr => first | (go_simp; done) | (go_simp; rfl)); intro gb hg w3 hbox hb; have HB := Aside0.mk hb; have BK := Aside0.mk hbox; replace g2 := pw_cell_below hb g2; replace s0 := pw_cell_below hb s0; replace m0 := pw_cell_below hb m0; replace m1 := pw_cell_below hb m1; have GE := Aside0.mk (by rw [hg]; exact Nat.le_refl _ : w.heap.size ≤ gb); clear hg hbox hb)
          | ((with_reducible refine gate_dst (N := 6) rfl ?_); refine box_event ?hg (N := 6) ?hd (cs := #[.int .i64 0, .int .i64 0, .bool false, .int .i64 0, .int .i64 0]) (t := 104) ?hr ?_; (case hd => rfl); (case hg => rfl); (case hr => first | (go_simp; done) | (go_simp; rfl)); intro gr hg w4 hbox hb; have N3 := Aside0.mk (by rw [hg]; exact Nat.ne_of_gt (blk_lt BK.out) : gr ≠ gb); have n0_ := Aside0.mk (below_step HB.out hb); have n1_ := Aside0.mk (blk_below BK.out hb); have GR := Aside0.mk (by rw [hg]; exact HB.out.size : w.heap.size ≤ gr); clear HB BK; have HB := n0_; have BK := n1_; clear n0_ n1_; have BR := Aside0.mk hbox; replace g2 := pw_cell_below hb g2; replace s0 := pw_cell_below hb s0; replace m0 := pw_cell_below hb m0; replace m1 := pw_cell_below hb m1; clear hg hbox hb))
        have N3 := N3.out
        have e0 : w4.cell? ⟨gb, 0, none⟩ = some (.int .i64 x) := (blk_cell BK.out 0).trans rfl
        have e1 : w4.cell? ⟨gb, 1, none⟩ = some (.int .i64 y) := (blk_cell BK.out 1).trans rfl
        have e6 : w4.cell? ⟨gb, 6, none⟩ = some (.bool false) := (blk_cell BK.out 6).trans rfl
        have v1 := World.new_ne _ _ g2
        have v2 := World.new_ne _ _ s0
        have v3 := World.new_ne _ _ m0
        have v4 := World.new_ne _ _ e0
        go_region_held3 (fun w' => w'.cell? ⟨gb, 0, none⟩ = some (.int .i64 x) ∧ w'.cell? ⟨gb, 1, none⟩ = some (.int .i64 y) ∧ w'.cell? ⟨gb, 6, none⟩ = some (.bool false) ∧ w'.cell? ⟨Adr82.gs, 0, none⟩ = some (.slice (some ads) ns Adr82.c) ∧ w'.cell? (ads.add a0.toNat) = some (.int .i64 z) ∧ w'.cell? ⟨Adr82.gm, 0, none⟩ = some (.int .i64 W) ∧ w'.cell? ⟨Adr82.gm, 1, none⟩ = some (.int .i64 M)) (go_keep) (fail)
        have hb := below_drew1 (below_alloc (Below.refl w4.heap.size w4) (.cells #[.int .i64 x, .int .i64 y, .bool false, .int .i64 (IntKind.i64.wrap (z + W)), .int .i64 (IntKind.i64.wrap (IntKind.i64.wrap (z + W) + M))] 104))
        have B8 := blk_drew (blk_new w4 (.cells #[.int .i64 x, .int .i64 y, .bool false, .int .i64 (IntKind.i64.wrap (z + W)), .int .i64 (IntKind.i64.wrap (IntKind.i64.wrap (z + W) + M))] 104))
        have GN : w.heap.size ≤ w4.heap.size := HB.out.size
        have NE : gr ≠ w4.heap.size := Nat.ne_of_lt (blk_lt BR.out)
        generalize (w4.alloc (.cells #[.int .i64 x, .int .i64 y, .bool false, .int .i64 (IntKind.i64.wrap (z + W)), .int .i64 (IntKind.i64.wrap (IntKind.i64.wrap (z + W) + M))] 104)).drew = w5 at hb B8 ⊢
        replace g2 := pw_cell_below hb g2
        replace s0 := pw_cell_below hb s0
        replace m0 := pw_cell_below hb m0
        replace m1 := pw_cell_below hb m1
        replace e0 := pw_cell_below hb e0
        replace e1 := pw_cell_below hb e1
        replace e6 := pw_cell_below hb e6
        have HB5 := below_step HB.out hb
        have BR5 := blk_below BR.out hb
        generalize w4.heap.size = n at *
        have b0 : w5.cell? ⟨n, 0, none⟩ = some (.int .i64 x) := (blk_cell B8 0).trans rfl
        have bf0 := blk_frozen B8 0
        have b1 : w5.cell? ⟨n, 1, none⟩ = some (.int .i64 y) := (blk_cell B8 1).trans rfl
        have bf1 := blk_frozen B8 1
        have b2 : w5.cell? ⟨n, 2, none⟩ = some (.bool false) := (blk_cell B8 2).trans rfl
        have bf2 := blk_frozen B8 2
        have b3 : w5.cell? ⟨n, 3, none⟩ = some (.int .i64 (IntKind.i64.wrap (z + W))) := (blk_cell B8 3).trans rfl
        have bf3 := blk_frozen B8 3
        have b4 : w5.cell? ⟨n, 4, none⟩ = some (.int .i64 (IntKind.i64.wrap (IntKind.i64.wrap (z + W) + M))) := (blk_cell B8 4).trans rfl
        have bf4 := blk_frozen B8 4
        have d0 : w5.cell? ⟨gr, 0, none⟩ = some (.int .i64 0) := (blk_cell BR5 0).trans rfl
        have df0 := blk_frozen BR5 0
        have d1 : w5.cell? ⟨gr, 1, none⟩ = some (.int .i64 0) := (blk_cell BR5 1).trans rfl
        have df1 := blk_frozen BR5 1
        have d2 : w5.cell? ⟨gr, 2, none⟩ = some (.bool false) := (blk_cell BR5 2).trans rfl
        have df2 := blk_frozen BR5 2
        have d3 : w5.cell? ⟨gr, 3, none⟩ = some (.int .i64 0) := (blk_cell BR5 3).trans rfl
        have df3 := blk_frozen BR5 3
        have d4 : w5.cell? ⟨gr, 4, none⟩ = some (.int .i64 0) := (blk_cell BR5 4).trans rfl
        have df4 := blk_frozen BR5 4
        clear v1 v2 v3 v4
        go_wp2
        · rw [if_pos (by assumption)] at h
          simp only [Option.some.injEq, Prod.mk.injEq] at h
          obtain ⟨rfl, rfl, rfl, rfl, rfl, rfl⟩ := h
          refine bodyPost_ret (v := .tuple #[.agg #[.int .i64 0, .int .i64 0, .bool false, .int .i64 0, .int .i64 0], .int .i64 14]) (by simp [results, Tryd.results82, go_sem, i64_w, d0, d1, d2, d3, d4]) rfl ⟨by simp only [i64_w], by repeat (first | exact HB5 | apply below_alloc | apply pw_below_drewN | apply below_drew1 | (refine below_set ?_ GR.out))⟩
        · rw [if_neg (by omega)] at h
          simp only [Option.some.injEq, Prod.mk.injEq] at h
          obtain ⟨rfl, rfl, rfl, rfl, rfl, rfl⟩ := h
          refine bodyPost_ret (v := .tuple #[.agg #[.int .i64 x, .int .i64 y, .bool false, .int .i64 (IntKind.i64.wrap (z + W)), .int .i64 (IntKind.i64.wrap (IntKind.i64.wrap (z + W) + M))], .int .i64 0]) (by simp [results, Tryd.results82, go_sem, i64_w, d0, d1, d2, d3, d4]) rfl ⟨by simp only [i64_w], by repeat (first | exact HB5 | apply below_alloc | apply pw_below_drewN | apply below_drew1 | (refine below_set ?_ GR.out))⟩
    · rw [if_neg h2] at h; cases h
  · rw [if_neg h0] at h; cases h
end Go.Proofs.YtjemaonejkepcaaDoor.G
namespace Go.Proofs.YtjemaonejkepcaaDoor.G
open Go.Proofs.YtjemaonejkepcaaDoor.B
open Go.RowKit Go.Proofs.YtjemaonejkepcaaDoorW.PrintWords Go.Proofs.YtjemaonejkepcaaDoorW.PrintLast Go.Proofs.YtjemaonejkepcaaDoorW.PrintMore
attribute [local go_sem] max2_int min2_int max_two min_two max_three min_three max_four min_four   -- for this text's walks alone
set_option linter.unusedVariables false
set_option linter.unusedSimpArgs false
section
variable [q82 : Dat82]
def gauge_Element.l0 : Nat → List (S104) → List (S27) → Int → Int → Option ((List (S104)) × Int)
  | 0, _, _, _, _ => none
  | k + 1, x6, x11, x12, x13 => if x13 < x12 then (if 0 ≤ x13 then (if x13 < (x11.length : Int) then ((gauge_Design_1.f x13 ((rd_T27 x11 x13).f0.f0) ((rd_T27 x11 x13).f0.f1) ((rd_T27 x11 x13).f1.f0) ((rd_T27 x11 x13).f1.f1) ((rd_T27 x11 x13).f2) ((rd_T27 x11 x13).f3) ((rd_T27 x11 x13).f4)).bind fun bt118 => (if bt118.2.2.2.2.2 = 0 then (if x6.length < 3518437208883 then (gauge_Element.l0 k (x6 ++ [(⟨(⟨bt118.1, bt118.2.1⟩ : S23), bt118.2.2.1, (⟨bt118.2.2.2.1, bt118.2.2.2.2.1⟩ : S25)⟩ : S104)]) x11 x12 (wrap64 (x13 + 1))) else (none)) else (some (([] : List (S104)), bt118.2.2.2.2.2)))) else (none)) else (none)) else (some (x6, 0))
def gauge_Element.f (k : Nat) (l0 : List (S27)) : Option ((List (S104)) × Int) := gauge_Element.l0 k ([] : List (S104)) l0 (l0.length : Int) 0
theorem gauge_Element.mono_l : ∀ k, (∀ y0 y1 y2 y3, LeO (gauge_Element.l0 k y0 y1 y2 y3) (gauge_Element.l0 (k + 1) y0 y1 y2 y3))
  | 0 => fun _ _ _ _ r h => by simp [gauge_Element.l0] at h
  | k + 1 => by
    have ih0 := gauge_Element.mono_l k
    · intro y0 y1 y2 y3
      unfold gauge_Element.l0
      repeat' first
      | (with_reducible exact ih0 _ _ _ _)
      | (with_reducible exact LeO.refl _)
      | (with_reducible exact LeO.none _)
      | (with_reducible refine LeO.ite ?_ ?_)
      | (with_reducible refine LeO.bind ?_ (fun _ => ?_))
      | exact ih0 _ _ _ _
      | exact LeO.none _
      | refine LeO.ite ?_ ?_
      | refine LeO.bind ?_ (fun _ => ?_)
theorem gauge_Element.mono : ∀ a0 k, LeO (gauge_Element.f k a0) (gauge_Element.f (k + 1) a0) := by
  intro a0 k
  have ih0 := gauge_Element.mono_l k
  unfold gauge_Element.f
  repeat' first
      | (with_reducible exact ih0 _ _ _ _)
      | (with_reducible exact LeO.refl _)
      | (with_reducible exact LeO.none _)
      | (with_reducible refine LeO.ite ?_ ?_)
      | (with_reducible refine LeO.bind ?_ (fun _ => ?_))
      | exact ih0 _ _ _ _
      | exact LeO.none _
      | refine LeO.ite ?_ ?_
      | refine LeO.bind ?_ (fun _ => ?_)
set_option maxHeartbeats 8000000 in
set_option maxRecDepth 100000 in
theorem gauge_Element.calls [Adr82] (k : Nat) (A0 : Option Addr) (c0 : Nat) (l0 : List (S27)) (r1 : List (S104)) (r2 : Int) (w : World) (hr0 : Kd.C k27 w A0 l0.length l0) (hc0 : l0.length ≤ c0) (h : gauge_Element.f k l0 = some (r1, r2)) (hS : CapAt82 w) :
    Calls Tryd.prog 81 #[.slice A0 l0.length c0, .func (.func 82) #[] #[.pointer (some ⟨Adr82.gs, 0, none⟩), .pointer (some ⟨Adr82.gm, 0, none⟩)]] w fun e w' => ∃ v0_ : Value, e = .returned (.tuple #[v0_, .int .i64 r2]) ∧ Kd.R k104 104 w' w.heap.size (fun _ => True) v0_ r1 ∧ Below w.heap.size w w' := by
  have HS := Aside0.mk hS
  clear hS
  have hu27 := Tryd.underlying27
  have hu104 := Tryd.underlying104
  have HR0 := Aside0.mk hr0
  have HC0 := Aside0.mk hc0
  clear hr0 hc0
  have HB := Aside0.mk (Below.refl w.heap.size w)
  have H : (gauge_Element.l0 k ([] : List (S104)) l0 (l0.length : Int) 0) = some (r1, r2) := h
  clear h
  have H' := Aside0.mk H
  clear H
  go_enter Tryd.func81, Tryd.ntmps81
  go_wp2
  go_loopg [6, 13] k (fun kq v6 v13 w' => ∃ (x6_1 : List (S104)) (x13_1 : Int), v13 = .int .i64 x13_1 ∧ Aside0 (gauge_Element.l0 kq x6_1 l0 (l0.length : Int) x13_1 = some (r1, r2)) ∧ Aside0 (kq ≤ k) ∧ Aside0 (Kd.R k104 104 w' w.heap.size (fun _ => True) v6 x6_1) ∧ Aside0 (Below w.heap.size w w'))
  case atStart => exact ⟨(([] : List (S104))), (0), (by first | rfl | (simp; done) | (simp [*]; done)), H', ⟨Nat.le_refl _⟩, ⟨by first | exact Kd.R_nil _ _ _ _ _ | exact Kd.N_nil _ _ _ _ _ | exact Kd.V_nil _ _ _ _ _ | exact Kd.Q_nil _ _ _ _ _ | exact Kd.S_nil _ _ _ _ _⟩, ⟨by repeat (first | (with_reducible first | exact HB.out | apply below_alloc | apply pw_below_drewN | apply below_drew1) | exact HB.out)⟩⟩
  case round =>
    clear H'
    obtain ⟨x6_1, x13_1, rfl, HA, HK1, HO_6, HB⟩ := hrel
    cases gk with
    | zero => exact absurd HA.out (by simp [gauge_Element.l0])
    | succ k1 =>
      have H := HA.out
      clear HA
      simp only [gauge_Element.l0] at H
      by_cases c2 : x13_1 < (l0.length : Int)
      · rw [if_pos c2] at H
        have c2b0 : decide (x13_1 < (l0.length : Int)) = true := decide_eq_true c2
        clear c2
        by_cases c3 : 0 ≤ x13_1
        · rw [if_pos c3] at H
          have c3b0 : decide (0 ≤ x13_1) = true := decide_eq_true c3
          clear c3
          by_cases c4 : x13_1 < (l0.length : Int)
          · rw [if_pos c4] at H
            have c4b0 : decide (x13_1 < (l0.length : Int)) = true := decide_eq_true c4
            clear c4
            replace H := Option.bind_eq_some_iff.mp H
            obtain ⟨⟨t118, t119, t120, t121, t122, t123⟩, A50, H⟩ := H
            replace H : (if t123 = 0 then (if x6_1.length < 3518437208883 then (gauge_Element.l0 k1 (x6_1 ++ [(⟨(⟨t118, t119⟩ : S23), t120, (⟨t121, t122⟩ : S25)⟩ : S104)]) l0 (l0.length : Int) (wrap64 (x13_1 + 1))) else (none)) else (some (([] : List (S104)), t123))) = some (r1, r2) := H
            have A5 := Aside0.mk A50
            clear A50
            by_cases c6 : t123 = 0
            · rw [if_pos c6] at H
              have c6b0 : (t123 == 0) = true := beq_iff_eq.mpr c6
              have c6b1 : (t123 != 0) = false := bne_eq_false_iff_eq.mpr c6
              clear c6
              by_cases c7 : x6_1.length < 3518437208883
              · rw [if_pos c7] at H
                have LMc7 := Aside0.mk c7
                clear c7
                obtain ⟨y125, hy125⟩ : ∃ y_ : List (S104), y_ = (x6_1 ++ [(⟨(⟨t118, t119⟩ : S23), t120, (⟨t121, t122⟩ : S25)⟩ : S104)]) := ⟨_, rfl⟩
                replace H : (gauge_Element.l0 k1 y125 l0 (l0.length : Int) (wrap64 (x13_1 + 1))) = some (r1, r2) := by first | (rw [hy125]; with_reducible exact H) | (have H2_ := (Option.bind_some _ _).symm.trans H; rw [hy125]; with_reducible exact H2_) | (have H2_ := (Option.bind_some _ _).symm.trans H; with_reducible exact H2_) | with_reducible exact H | (rw [hy125]; exact H) | exact H
                have Ny125 := Aside0.mk hy125
                clear hy125
                have H' := Aside0.mk H
                clear H
                have p116 : 0 ≤ (x13_1 : Int) := of_decide_eq_true (by first | (with_reducible assumption) | assumption)
                have q116 : x13_1 < (l0.length : Int) := of_decide_eq_true (by first | (with_reducible assumption) | assumption)
                obtain ⟨ad116, e116, hx116_0, hx116_1, hx116_2, hx116_3, hx116_4, hx116_5, hx116_6⟩ := at_T27 HR0.out x13_1 p116 q116
                cases e116
                replace hx116_0 := (HB.out.cell (World.block_lt_of_cell? w _ hx116_0)).trans hx116_0
                replace hx116_1 := (HB.out.cell (World.block_lt_of_cell? w _ hx116_1)).trans hx116_1
                replace hx116_2 := (HB.out.cell (World.block_lt_of_cell? w _ hx116_2)).trans hx116_2
                replace hx116_3 := (HB.out.cell (World.block_lt_of_cell? w _ hx116_3)).trans hx116_3
                replace hx116_4 := (HB.out.cell (World.block_lt_of_cell? w _ hx116_4)).trans hx116_4
                replace hx116_5 := (HB.out.cell (World.block_lt_of_cell? w _ hx116_5)).trans hx116_5
                replace hx116_6 := (HB.out.cell (World.block_lt_of_cell? w _ hx116_6)).trans hx116_6
                replace p116 := eq_true p116
                replace q116 := eq_true q116
                go_wp2_with (first | ((with_reducible refine gate_dst (N := 8) rfl ?_); refine box_event ?hg (N := 8) ?hd (cs := #[.int .i64 0, .int .i64 0, .int .i64 0, .int .i64 0, .int .i64 0, .int .i64 0, .bool false]) (t := 27) ?hr ?_; (case hd => rfl); (case hg => rfl); (case hr => first | (go_simp; done) | (go_simp; rfl)); intro gb117 hg w8 hbox hb; have n0_ := Aside0.mk (Kd.R_below (by (with_reducible repeat (first | apply Kd.R_alloc | apply Kd.R_drewN | apply Kd.R_drew)); exact HO_6.out) hb); have n1_ := Aside0.mk (below_step (by repeat (first | (with_reducible first | exact HB.out | apply below_alloc | apply pw_below_drewN | apply below_drew1) | exact HB.out)) hb); have n2_ := Aside0.mk (hbox); have n3_ := Aside0.mk ((by rw [hg]; exact (below_size (by repeat (first | (with_reducible first | exact HB.out | apply below_alloc | apply pw_below_drewN | apply below_drew1) | exact HB.out))) : w.heap.size ≤ gb117)); have n4_ := Aside0.mk ((by rw [hg]; exact (below_size (by repeat (first | (with_reducible first | exact HB.out | apply below_alloc | apply pw_below_drewN | apply below_drew1) | exact HB.out))) : w.heap.size ≤ gb117)); clear HO_6; clear HB; have HO_6 := n0_; have HB := n1_; have BK117 := n2_; have GW117 := n3_; have GE117 := n4_; clear n0_ n1_ n2_ n3_ n4_; clear hb hbox hg; have hcz9_0 : w8.cell? ⟨gb117, 0, none⟩ = some (.int .i64 0) := (blk_cell BK117.out 0).trans rfl; have hcz9_1 : w8.cell? ⟨gb117, 1, none⟩ = some (.int .i64 0) := (blk_cell BK117.out 1).trans rfl; have hcz9_2 : w8.cell? ⟨gb117, 2, none⟩ = some (.int .i64 0) := (blk_cell BK117.out 2).trans rfl; have hcz9_3 : w8.cell? ⟨gb117, 3, none⟩ = some (.int .i64 0) := (blk_cell BK117.out 3).trans rfl; have hcz9_4 : w8.cell? ⟨gb117, 4, none⟩ = some (.int .i64 0) := (blk_cell BK117.out 4).trans rfl; have hcz9_5 : w8.cell? ⟨gb117, 5, none⟩ = some (.int .i64 0) := (blk_cell BK117.out 5).trans rfl; have hcz9_6 : w8.cell? ⟨gb117, 6, none⟩ = some (.bool false) := (blk_cell BK117.out 6).trans rfl; have hfz9_0 := blk_frozen BK117.out 0; have hfz9_1 := blk_frozen BK117.out 1; have hfz9_2 := blk_frozen BK117.out 2; have hfz9_3 := blk_frozen BK117.out 3; have hfz9_4 := blk_frozen BK117.out 4; have hfz9_5 := blk_frozen BK117.out 5; have hfz9_6 := blk_frozen BK117.out 6) | (go_at_call 82; (with_reducible refine (gauge_Design_1.calls x13_1 ((rd_T27 l0 x13_1).f0.f0) ((rd_T27 l0 x13_1).f0.f1) ((rd_T27 l0 x13_1).f1.f0) ((rd_T27 l0 x13_1).f1.f1) ((rd_T27 l0 x13_1).f2) ((rd_T27 l0 x13_1).f3) ((rd_T27 l0 x13_1).f4) t118 t119 t120 t121 t122 t123 _ A5.out (by exact cap82_below HS.out (by repeat (first | (with_reducible first | exact HB.out | apply below_alloc | apply pw_below_drewN | apply below_drew1 | refine below_set ?_ GE117.out | refine below_set ?_ GE124.out) | exact HB.out)))).mono ?_); rintro e w10 ⟨rfl, hb⟩; skip; have n0_ := Aside0.mk (Kd.R_below (by (with_reducible repeat (first | apply Kd.R_alloc | apply Kd.R_drewN | apply Kd.R_drew)); exact (Kd.R_mono (Kd.R_far (p := ⟨gb117, 6, none⟩) (Kd.R_far (p := ⟨gb117, 5, none⟩) (Kd.R_far (p := ⟨gb117, 4, none⟩) (Kd.R_far (p := ⟨gb117, 3, none⟩) (Kd.R_far (p := ⟨gb117, 2, none⟩) (Kd.R_far (p := ⟨gb117, 1, none⟩) (Kd.R_far (p := ⟨gb117, 0, none⟩) (Kd.R_types HO_6.out BK117.out (by decide)) (fun _ hk => hk.2) (.int .i64 ((rd_T27 l0 x13_1).f0.f0))) (fun _ hk => hk.2) (.int .i64 ((rd_T27 l0 x13_1).f0.f1))) (fun _ hk => hk.2) (.int .i64 ((rd_T27 l0 x13_1).f1.f0))) (fun _ hk => hk.2) (.int .i64 ((rd_T27 l0 x13_1).f1.f1))) (fun _ hk => hk.2) (.int .i64 ((rd_T27 l0 x13_1).f2))) (fun _ hk => hk.2) (.int .i64 ((rd_T27 l0 x13_1).f3))) (fun _ hk => hk.2) (.bool ((rd_T27 l0 x13_1).f4))) (fun _ h_ => h_.1))) hb); have n1_ := Aside0.mk (blk_below (g := gb117) (o := .cells #[.int .i64 ((rd_T27 l0 x13_1).f0.f0), .int .i64 ((rd_T27 l0 x13_1).f0.f1), .int .i64 ((rd_T27 l0 x13_1).f1.f0), .int .i64 ((rd_T27 l0 x13_1).f1.f1), .int .i64 ((rd_T27 l0 x13_1).f2), .int .i64 ((rd_T27 l0 x13_1).f3), .bool ((rd_T27 l0 x13_1).f4)] 27 (0, 0)) (by (with_reducible repeat (first | refine blk_drewN ?_ _ | refine blk_drew ?_ | refine blk_alloc ?_ _)); refine blk_put (cs := #[.int .i64 ((rd_T27 l0 x13_1).f0.f0), .int .i64 ((rd_T27 l0 x13_1).f0.f1), .int .i64 ((rd_T27 l0 x13_1).f1.f0), .int .i64 ((rd_T27 l0 x13_1).f1.f1), .int .i64 ((rd_T27 l0 x13_1).f2), .int .i64 ((rd_T27 l0 x13_1).f3), .bool false]) ?_ 6 _ rfl; (with_reducible repeat (first | refine blk_drewN ?_ _ | refine blk_drew ?_ | refine blk_alloc ?_ _)); refine blk_put (cs := #[.int .i64 ((rd_T27 l0 x13_1).f0.f0), .int .i64 ((rd_T27 l0 x13_1).f0.f1), .int .i64 ((rd_T27 l0 x13_1).f1.f0), .int .i64 ((rd_T27 l0 x13_1).f1.f1), .int .i64 ((rd_T27 l0 x13_1).f2), .int .i64 0, .bool false]) ?_ 5 _ rfl; (with_reducible repeat (first | refine blk_drewN ?_ _ | refine blk_drew ?_ | refine blk_alloc ?_ _)); refine blk_put (cs := #[.int .i64 ((rd_T27 l0 x13_1).f0.f0), .int .i64 ((rd_T27 l0 x13_1).f0.f1), .int .i64 ((rd_T27 l0 x13_1).f1.f0), .int .i64 ((rd_T27 l0 x13_1).f1.f1), .int .i64 0, .int .i64 0, .bool false]) ?_ 4 _ rfl; (with_reducible repeat (first | refine blk_drewN ?_ _ | refine blk_drew ?_ | refine blk_alloc ?_ _)); refine blk_put (cs := #[.int .i64 ((rd_T27 l0 x13_1).f0.f0), .int .i64 ((rd_T27 l0 x13_1).f0.f1), .int .i64 ((rd_T27 l0 x13_1).f1.f0), .int .i64 0, .int .i64 0, .int .i64 0, .bool false]) ?_ 3 _ rfl; (with_reducible repeat (first | refine blk_drewN ?_ _ | refine blk_drew ?_ | refine blk_alloc ?_ _)); refine blk_put (cs := #[.int .i64 ((rd_T27 l0 x13_1).f0.f0), .int .i64 ((rd_T27 l0 x13_1).f0.f1), .int .i64 0, .int .i64 0, .int .i64 0, .int .i64 0, .bool false]) ?_ 2 _ rfl; (with_reducible repeat (first | refine blk_drewN ?_ _ | refine blk_drew ?_ | refine blk_alloc ?_ _)); refine blk_put (cs := #[.int .i64 ((rd_T27 l0 x13_1).f0.f0), .int .i64 0, .int .i64 0, .int .i64 0, .int .i64 0, .int .i64 0, .bool false]) ?_ 1 _ rfl; (with_reducible repeat (first | refine blk_drewN ?_ _ | refine blk_drew ?_ | refine blk_alloc ?_ _)); refine blk_put (cs := #[.int .i64 0, .int .i64 0, .int .i64 0, .int .i64 0, .int .i64 0, .int .i64 0, .bool false]) ?_ 0 _ rfl; (with_reducible repeat (first | refine blk_drewN ?_ _ | refine blk_drew ?_ | refine blk_alloc ?_ _)); exact BK117.out) hb); have n2_ := Aside0.mk (below_step (by repeat (first | (with_reducible first | exact HB.out | apply below_alloc | apply pw_below_drewN | apply below_drew1 | refine below_set ?_ GE117.out) | exact HB.out)) hb); clear HO_6; clear BK117; clear HB; have HO_6 := n0_; have BK117 := n1_; have HB := n2_; clear n0_ n1_ n2_; (try clear hb); (try clear hb2); (try clear hk); (try clear hi)) | ((with_reducible refine gate_dst (N := 9) rfl ?_); refine box_event ?hg (N := 9) ?hd (cs := #[.int .i64 0, .int .i64 0, .bool false, .int .i64 0, .int .i64 0]) (t := 104) ?hr ?_; (case hd => rfl); (case hg => rfl); (case hr => first | (go_simp; done) | (go_simp; rfl)); intro gb124 hg w11 hbox hb; have n0_ := Aside0.mk (Kd.R_below (Kd.R_elderB (by (with_reducible repeat (first | apply Kd.R_alloc | apply Kd.R_drewN | apply Kd.R_drew)); exact HO_6.out) gb124 (Nat.le_of_eq hg.symm)) hb); have n1_ := Aside0.mk (blk_below (g := gb117) (o := .cells #[.int .i64 ((rd_T27 l0 x13_1).f0.f0), .int .i64 ((rd_T27 l0 x13_1).f0.f1), .int .i64 ((rd_T27 l0 x13_1).f1.f0), .int .i64 ((rd_T27 l0 x13_1).f1.f1), .int .i64 ((rd_T27 l0 x13_1).f2), .int .i64 ((rd_T27 l0 x13_1).f3), .bool ((rd_T27 l0 x13_1).f4)] 27 (0, 0)) (by (with_reducible repeat (first | refine blk_drewN ?_ _ | refine blk_drew ?_ | refine blk_alloc ?_ _)); exact BK117.out) hb); have n2_ := Aside0.mk (below_step (by repeat (first | (with_reducible first | exact HB.out | apply below_alloc | apply pw_below_drewN | apply below_drew1 | refine below_set ?_ GE117.out) | exact HB.out)) hb); have n3_ := Aside0.mk (hbox); have n4_ := Aside0.mk ((by rw [hg]; exact (below_size (by repeat (first | (with_reducible first | exact HB.out | apply below_alloc | apply pw_below_drewN | apply below_drew1 | refine below_set ?_ GE117.out) | exact HB.out))) : w.heap.size ≤ gb124)); have n5_ := Aside0.mk ((by rw [hg]; exact (below_size (by repeat (first | (with_reducible first | exact HB.out | apply below_alloc | apply pw_below_drewN | apply below_drew1 | refine below_set ?_ GE117.out) | exact HB.out))) : w.heap.size ≤ gb124)); have n6_ := Aside0.mk ((by rw [hg]; exact Nat.ne_of_lt (blk_lt (g := gb117) (o := .cells #[.int .i64 ((rd_T27 l0 x13_1).f0.f0), .int .i64 ((rd_T27 l0 x13_1).f0.f1), .int .i64 ((rd_T27 l0 x13_1).f1.f0), .int .i64 ((rd_T27 l0 x13_1).f1.f1), .int .i64 ((rd_T27 l0 x13_1).f2), .int .i64 ((rd_T27 l0 x13_1).f3), .bool ((rd_T27 l0 x13_1).f4)] 27 (0, 0)) (by (with_reducible repeat (first | refine blk_drewN ?_ _ | refine blk_drew ?_ | refine blk_alloc ?_ _)); exact BK117.out)) : gb117 ≠ gb124)); have n7_ := Aside0.mk ((by rw [hg]; exact Nat.ne_of_gt (blk_lt (g := gb117) (o := .cells #[.int .i64 ((rd_T27 l0 x13_1).f0.f0), .int .i64 ((rd_T27 l0 x13_1).f0.f1), .int .i64 ((rd_T27 l0 x13_1).f1.f0), .int .i64 ((rd_T27 l0 x13_1).f1.f1), .int .i64 ((rd_T27 l0 x13_1).f2), .int .i64 ((rd_T27 l0 x13_1).f3), .bool ((rd_T27 l0 x13_1).f4)] 27 (0, 0)) (by (with_reducible repeat (first | refine blk_drewN ?_ _ | refine blk_drew ?_ | refine blk_alloc ?_ _)); exact BK117.out)) : gb124 ≠ gb117)); clear HO_6; clear BK117; clear HB; have HO_6 := n0_; have BK117 := n1_; have HB := n2_; have BK124 := n3_; have GW124 := n4_; have GE124 := n5_; have NB117_124 := n6_; have NB124_117 := n7_; clear n0_ n1_ n2_ n3_ n4_ n5_ n6_ n7_; clear hb hbox hg; have hnb12 := NB124_117.out; have hnc12 := NB117_124.out; have hcz13_0 : w11.cell? ⟨gb124, 0, none⟩ = some (.int .i64 0) := (blk_cell BK124.out 0).trans rfl; have hcz13_1 : w11.cell? ⟨gb124, 1, none⟩ = some (.int .i64 0) := (blk_cell BK124.out 1).trans rfl; have hcz13_2 : w11.cell? ⟨gb124, 2, none⟩ = some (.bool false) := (blk_cell BK124.out 2).trans rfl; have hcz13_3 : w11.cell? ⟨gb124, 3, none⟩ = some (.int .i64 0) := (blk_cell BK124.out 3).trans rfl; have hcz13_4 : w11.cell? ⟨gb124, 4, none⟩ = some (.int .i64 0) := (blk_cell BK124.out 4).trans rfl; have hfz13_0 := blk_frozen BK124.out 0; have hfz13_1 := blk_frozen BK124.out 1; have hfz13_2 := blk_frozen BK124.out 2; have hfz13_3 := blk_frozen BK124.out 3; have hfz13_4 := blk_frozen BK124.out 4) | ((with_reducible refine gate_builtin (b := .append) (xs := #[.tmp 28, .tmp 30]) rfl ?_); at_builtin; refine Kd.R_append k104 (w0 := w) w.heap.size rfl (.tmp 28) (.tmp 30) 46 104 (.agg #[(.int .i64 0), (.int .i64 0), (.bool false), (.int .i64 0), (.int .i64 0)]) 40 rfl Tryd.underlying46 info104 rfl (by decide) (by omega) u6 x6_1 (⟨(⟨t118, t119⟩ : S23), t120, (⟨t121, t122⟩ : S25)⟩ : S104) [.int .i64 t118, .int .i64 t119, .bool t120, .int .i64 t121, .int .i64 t122] (fun k_ => k_ ≠ gb124) (fun _ => False) rfl (by first | (go_simp; done) | (go_simp; rfl)) ?aP (fun _ hk => hk.elim) ?aF ?aO ?aB ?aS ?aL ?_; (case aP => exact k104_mkM _ _ _ (⟨(⟨t118, t119⟩ : S23), t120, (⟨t121, t122⟩ : S25)⟩ : S104)); (case aB => exact (by repeat (first | (with_reducible first | exact HB.out | apply below_alloc | apply pw_below_drewN | apply below_drew1 | refine below_set ?_ GE117.out | refine below_set ?_ GE124.out) | exact HB.out))); (case aF => exact (fun k_ hk => Kd.freshB (g := gb124) (o := .cells #[.int .i64 t118, .int .i64 t119, .bool t120, .int .i64 t121, .int .i64 t122] 104 (0, 0)) (by (with_reducible repeat (first | refine blk_drewN ?_ _ | refine blk_drew ?_ | refine blk_alloc ?_ _)); refine blk_put (cs := #[.int .i64 t118, .int .i64 t119, .bool t120, .int .i64 t121, .int .i64 0]) ?_ 4 _ rfl; (with_reducible repeat (first | refine blk_drewN ?_ _ | refine blk_drew ?_ | refine blk_alloc ?_ _)); refine blk_put (cs := #[.int .i64 t118, .int .i64 t119, .bool t120, .int .i64 0, .int .i64 0]) ?_ 3 _ rfl; (with_reducible repeat (first | refine blk_drewN ?_ _ | refine blk_drew ?_ | refine blk_alloc ?_ _)); refine blk_put (cs := #[.int .i64 t118, .int .i64 t119, .bool false, .int .i64 0, .int .i64 0]) ?_ 2 _ rfl; (with_reducible repeat (first | refine blk_drewN ?_ _ | refine blk_drew ?_ | refine blk_alloc ?_ _)); refine blk_put (cs := #[.int .i64 t118, .int .i64 0, .bool false, .int .i64 0, .int .i64 0]) ?_ 1 _ rfl; (with_reducible repeat (first | refine blk_drewN ?_ _ | refine blk_drew ?_ | refine blk_alloc ?_ _)); refine blk_put (cs := #[.int .i64 0, .int .i64 0, .bool false, .int .i64 0, .int .i64 0]) ?_ 0 _ rfl; (with_reducible repeat (first | refine blk_drewN ?_ _ | refine blk_drew ?_ | refine blk_alloc ?_ _)); exact BK124.out) k_ hk)); (case aO => exact (by (with_reducible repeat (first | apply Kd.R_alloc | apply Kd.R_drewN | apply Kd.R_drew)); exact Kd.R_mono (Kd.R_far (p := ⟨gb124, 4, none⟩) (Kd.R_far (p := ⟨gb124, 3, none⟩) (Kd.R_far (p := ⟨gb124, 2, none⟩) (Kd.R_far (p := ⟨gb124, 1, none⟩) (Kd.R_far (p := ⟨gb124, 0, none⟩) (Kd.R_mono HO_6.out (fun k_ hk => (⟨hk, hk.2⟩ : _ ∧ k_ ≠ gb124))) (fun _ hk => hk.2) (.int .i64 t118)) (fun _ hk => hk.2) (.int .i64 t119)) (fun _ hk => hk.2) (.bool t120)) (fun _ hk => hk.2) (.int .i64 t121)) (fun _ hk => hk.2) (.int .i64 t122)) (fun _ hk => hk.1.2))); (case aS => exact (below_size (by repeat (first | (with_reducible first | exact HB.out | apply below_alloc | apply pw_below_drewN | apply below_drew1 | refine below_set ?_ GE117.out | refine below_set ?_ GE124.out) | exact HB.out)))); (case aL => have := LMc7.out; omega); intro v126 w14 ho hb hg hat; rw [← Ny125.out] at ho; have n0_ := Aside0.mk (blk_grown (g := gb117) (o := .cells #[.int .i64 ((rd_T27 l0 x13_1).f0.f0), .int .i64 ((rd_T27 l0 x13_1).f0.f1), .int .i64 ((rd_T27 l0 x13_1).f1.f0), .int .i64 ((rd_T27 l0 x13_1).f1.f1), .int .i64 ((rd_T27 l0 x13_1).f2), .int .i64 ((rd_T27 l0 x13_1).f3), .bool ((rd_T27 l0 x13_1).f4)] 27 (0, 0)) (by (with_reducible repeat (first | refine blk_drewN ?_ _ | refine blk_drew ?_ | refine blk_alloc ?_ _)); refine blk_far ?_ NB117_124.out _; (with_reducible repeat (first | refine blk_drewN ?_ _ | refine blk_drew ?_ | refine blk_alloc ?_ _)); refine blk_far ?_ NB117_124.out _; (with_reducible repeat (first | refine blk_drewN ?_ _ | refine blk_drew ?_ | refine blk_alloc ?_ _)); refine blk_far ?_ NB117_124.out _; (with_reducible repeat (first | refine blk_drewN ?_ _ | refine blk_drew ?_ | refine blk_alloc ?_ _)); refine blk_far ?_ NB117_124.out _; (with_reducible repeat (first | refine blk_drewN ?_ _ | refine blk_drew ?_ | refine blk_alloc ?_ _)); refine blk_far ?_ NB117_124.out _; (with_reducible repeat (first | refine blk_drewN ?_ _ | refine blk_drew ?_ | refine blk_alloc ?_ _)); exact BK117.out) hg (Kd.R_ne HO_6.out BK117.out (by decide))); have n1_ := Aside0.mk (blk_grown (g := gb124) (o := .cells #[.int .i64 t118, .int .i64 t119, .bool t120, .int .i64 t121, .int .i64 t122] 104 (0, 0)) (by (with_reducible repeat (first | refine blk_drewN ?_ _ | refine blk_drew ?_ | refine blk_alloc ?_ _)); refine blk_put (cs := #[.int .i64 t118, .int .i64 t119, .bool t120, .int .i64 t121, .int .i64 0]) ?_ 4 _ rfl; (with_reducible repeat (first | refine blk_drewN ?_ _ | refine blk_drew ?_ | refine blk_alloc ?_ _)); refine blk_put (cs := #[.int .i64 t118, .int .i64 t119, .bool t120, .int .i64 0, .int .i64 0]) ?_ 3 _ rfl; (with_reducible repeat (first | refine blk_drewN ?_ _ | refine blk_drew ?_ | refine blk_alloc ?_ _)); refine blk_put (cs := #[.int .i64 t118, .int .i64 t119, .bool false, .int .i64 0, .int .i64 0]) ?_ 2 _ rfl; (with_reducible repeat (first | refine blk_drewN ?_ _ | refine blk_drew ?_ | refine blk_alloc ?_ _)); refine blk_put (cs := #[.int .i64 t118, .int .i64 0, .bool false, .int .i64 0, .int .i64 0]) ?_ 1 _ rfl; (with_reducible repeat (first | refine blk_drewN ?_ _ | refine blk_drew ?_ | refine blk_alloc ?_ _)); refine blk_put (cs := #[.int .i64 0, .int .i64 0, .bool false, .int .i64 0, .int .i64 0]) ?_ 0 _ rfl; (with_reducible repeat (first | refine blk_drewN ?_ _ | refine blk_drew ?_ | refine blk_alloc ?_ _)); exact BK124.out) hg (Kd.R_away HO_6.out (fun _ hk => hk.2))); have n2_ := Aside0.mk (hb); have n3_ := Aside0.mk (ho); clear BK117; clear BK124; clear HB; clear HO_6; have BK117 := n0_; have BK124 := n1_; have HB := n2_; have HO127 := n3_; clear n0_ n1_ n2_ n3_; clear ho hb hg hat))
                go_roundg k1
                case measure => have := HK1.out; omega
                case rel => exact ⟨(y125), (wrap64 (x13_1 + 1)), (by first | rfl | (simp; done) | (simp [*]; done)), H', ⟨by have := HK1.out; omega⟩, ⟨by (with_reducible repeat (first | apply Kd.R_alloc | apply Kd.R_drewN | apply Kd.R_drew)); exact Kd.R_mono HO127.out (fun _ hk => trivial)⟩, ⟨by repeat (first | (with_reducible first | exact HB.out | apply below_alloc | apply pw_below_drewN | apply below_drew1 | refine below_set ?_ GE117.out | refine below_set ?_ GE124.out) | exact HB.out)⟩⟩
              · rw [if_neg c7] at H
                exact absurd H (by simp)
            · rw [if_neg c6] at H
              have c6b0 : (t123 == 0) = false := beq_eq_false_iff_ne.mpr c6
              have c6b1 : (t123 != 0) = true := bne_iff_ne.mpr c6
              simp only [Option.some.injEq, Prod.mk.injEq] at H
              obtain ⟨rfl, rfl⟩ := H
              have p116 : 0 ≤ (x13_1 : Int) := of_decide_eq_true (by first | (with_reducible assumption) | assumption)
              have q116 : x13_1 < (l0.length : Int) := of_decide_eq_true (by first | (with_reducible assumption) | assumption)
              obtain ⟨ad116, e116, hx116_0, hx116_1, hx116_2, hx116_3, hx116_4, hx116_5, hx116_6⟩ := at_T27 HR0.out x13_1 p116 q116
              cases e116
              replace hx116_0 := (HB.out.cell (World.block_lt_of_cell? w _ hx116_0)).trans hx116_0
              replace hx116_1 := (HB.out.cell (World.block_lt_of_cell? w _ hx116_1)).trans hx116_1
              replace hx116_2 := (HB.out.cell (World.block_lt_of_cell? w _ hx116_2)).trans hx116_2
              replace hx116_3 := (HB.out.cell (World.block_lt_of_cell? w _ hx116_3)).trans hx116_3
              replace hx116_4 := (HB.out.cell (World.block_lt_of_cell? w _ hx116_4)).trans hx116_4
              replace hx116_5 := (HB.out.cell (World.block_lt_of_cell? w _ hx116_5)).trans hx116_5
              replace hx116_6 := (HB.out.cell (World.block_lt_of_cell? w _ hx116_6)).trans hx116_6
              replace p116 := eq_true p116
              replace q116 := eq_true q116
              go_wp2_with (first | ((with_reducible refine gate_dst (N := 8) rfl ?_); refine box_event ?hg (N := 8) ?hd (cs := #[.int .i64 0, .int .i64 0, .int .i64 0, .int .i64 0, .int .i64 0, .int .i64 0, .bool false]) (t := 27) ?hr ?_; (case hd => rfl); (case hg => rfl); (case hr => first | (go_simp; done) | (go_simp; rfl)); intro gb117 hg w15 hbox hb; have n0_ := Aside0.mk (Kd.R_below (by (with_reducible repeat (first | apply Kd.R_alloc | apply Kd.R_drewN | apply Kd.R_drew)); exact HO_6.out) hb); have n1_ := Aside0.mk (below_step (by repeat (first | (with_reducible first | exact HB.out | apply below_alloc | apply pw_below_drewN | apply below_drew1) | exact HB.out)) hb); have n2_ := Aside0.mk (hbox); have n3_ := Aside0.mk ((by rw [hg]; exact (below_size (by repeat (first | (with_reducible first | exact HB.out | apply below_alloc | apply pw_below_drewN | apply below_drew1) | exact HB.out))) : w.heap.size ≤ gb117)); have n4_ := Aside0.mk ((by rw [hg]; exact (below_size (by repeat (first | (with_reducible first | exact HB.out | apply below_alloc | apply pw_below_drewN | apply below_drew1) | exact HB.out))) : w.heap.size ≤ gb117)); clear HO_6; clear HB; have HO_6 := n0_; have HB := n1_; have BK117 := n2_; have GW117 := n3_; have GE117 := n4_; clear n0_ n1_ n2_ n3_ n4_; clear hb hbox hg; have hcz16_0 : w15.cell? ⟨gb117, 0, none⟩ = some (.int .i64 0) := (blk_cell BK117.out 0).trans rfl; have hcz16_1 : w15.cell? ⟨gb117, 1, none⟩ = some (.int .i64 0) := (blk_cell BK117.out 1).trans rfl; have hcz16_2 : w15.cell? ⟨gb117, 2, none⟩ = some (.int .i64 0) := (blk_cell BK117.out 2).trans rfl; have hcz16_3 : w15.cell? ⟨gb117, 3, none⟩ = some (.int .i64 0) := (blk_cell BK117.out 3).trans rfl; have hcz16_4 : w15.cell? ⟨gb117, 4, none⟩ = some (.int .i64 0) := (blk_cell BK117.out 4).trans rfl; have hcz16_5 : w15.cell? ⟨gb117, 5, none⟩ = some (.int .i64 0) := (blk_cell BK117.out 5).trans rfl; have hcz16_6 : w15.cell? ⟨gb117, 6, none⟩ = some (.bool false) := (blk_cell BK117.out 6).trans rfl; have hfz16_0 := blk_frozen BK117.out 0; have hfz16_1 := blk_frozen BK117.out 1; have hfz16_2 := blk_frozen BK117.out 2; have hfz16_3 := blk_frozen BK117.out 3; have hfz16_4 := blk_frozen BK117.out 4; have hfz16_5 := blk_frozen BK117.out 5; have hfz16_6 := blk_frozen BK117.out 6) | (go_at_call 82; (with_reducible refine (gauge_Design_1.calls x13_1 ((rd_T27 l0 x13_1).f0.f0) ((rd_T27 l0 x13_1).f0.f1) ((rd_T27 l0 x13_1).f1.f0) ((rd_T27 l0 x13_1).f1.f1) ((rd_T27 l0 x13_1).f2) ((rd_T27 l0 x13_1).f3) ((rd_T27 l0 x13_1).f4) t118 t119 t120 t121 t122 t123 _ A5.out (by exact cap82_below HS.out (by repeat (first | (with_reducible first | exact HB.out | apply below_alloc | apply pw_below_drewN | apply below_drew1 | refine below_set ?_ GE117.out | refine below_set ?_ GE124.out) | exact HB.out)))).mono ?_); rintro e w17 ⟨rfl, hb⟩; skip; have n0_ := Aside0.mk (Kd.R_below (by (with_reducible repeat (first | apply Kd.R_alloc | apply Kd.R_drewN | apply Kd.R_drew)); exact (Kd.R_mono (Kd.R_far (p := ⟨gb117, 6, none⟩) (Kd.R_far (p := ⟨gb117, 5, none⟩) (Kd.R_far (p := ⟨gb117, 4, none⟩) (Kd.R_far (p := ⟨gb117, 3, none⟩) (Kd.R_far (p := ⟨gb117, 2, none⟩) (Kd.R_far (p := ⟨gb117, 1, none⟩) (Kd.R_far (p := ⟨gb117, 0, none⟩) (Kd.R_types HO_6.out BK117.out (by decide)) (fun _ hk => hk.2) (.int .i64 ((rd_T27 l0 x13_1).f0.f0))) (fun _ hk => hk.2) (.int .i64 ((rd_T27 l0 x13_1).f0.f1))) (fun _ hk => hk.2) (.int .i64 ((rd_T27 l0 x13_1).f1.f0))) (fun _ hk => hk.2) (.int .i64 ((rd_T27 l0 x13_1).f1.f1))) (fun _ hk => hk.2) (.int .i64 ((rd_T27 l0 x13_1).f2))) (fun _ hk => hk.2) (.int .i64 ((rd_T27 l0 x13_1).f3))) (fun _ hk => hk.2) (.bool ((rd_T27 l0 x13_1).f4))) (fun _ h_ => h_.1))) hb); have n1_ := Aside0.mk (blk_below (g := gb117) (o := .cells #[.int .i64 ((rd_T27 l0 x13_1).f0.f0), .int .i64 ((rd_T27 l0 x13_1).f0.f1), .int .i64 ((rd_T27 l0 x13_1).f1.f0), .int .i64 ((rd_T27 l0 x13_1).f1.f1), .int .i64 ((rd_T27 l0 x13_1).f2), .int .i64 ((rd_T27 l0 x13_1).f3), .bool ((rd_T27 l0 x13_1).f4)] 27 (0, 0)) (by (with_reducible repeat (first | refine blk_drewN ?_ _ | refine blk_drew ?_ | refine blk_alloc ?_ _)); refine blk_put (cs := #[.int .i64 ((rd_T27 l0 x13_1).f0.f0), .int .i64 ((rd_T27 l0 x13_1).f0.f1), .int .i64 ((rd_T27 l0 x13_1).f1.f0), .int .i64 ((rd_T27 l0 x13_1).f1.f1), .int .i64 ((rd_T27 l0 x13_1).f2), .int .i64 ((rd_T27 l0 x13_1).f3), .bool false]) ?_ 6 _ rfl; (with_reducible repeat (first | refine blk_drewN ?_ _ | refine blk_drew ?_ | refine blk_alloc ?_ _)); refine blk_put (cs := #[.int .i64 ((rd_T27 l0 x13_1).f0.f0), .int .i64 ((rd_T27 l0 x13_1).f0.f1), .int .i64 ((rd_T27 l0 x13_1).f1.f0), .int .i64 ((rd_T27 l0 x13_1).f1.f1), .int .i64 ((rd_T27 l0 x13_1).f2), .int .i64 0, .bool false]) ?_ 5 _ rfl; (with_reducible repeat (first | refine blk_drewN ?_ _ | refine blk_drew ?_ | refine blk_alloc ?_ _)); refine blk_put (cs := #[.int .i64 ((rd_T27 l0 x13_1).f0.f0), .int .i64 ((rd_T27 l0 x13_1).f0.f1), .int .i64 ((rd_T27 l0 x13_1).f1.f0), .int .i64 ((rd_T27 l0 x13_1).f1.f1), .int .i64 0, .int .i64 0, .bool false]) ?_ 4 _ rfl; (with_reducible repeat (first | refine blk_drewN ?_ _ | refine blk_drew ?_ | refine blk_alloc ?_ _)); refine blk_put (cs := #[.int .i64 ((rd_T27 l0 x13_1).f0.f0), .int .i64 ((rd_T27 l0 x13_1).f0.f1), .int .i64 ((rd_T27 l0 x13_1).f1.f0), .int .i64 0, .int .i64 0, .int .i64 0, .bool false]) ?_ 3 _ rfl; (with_reducible repeat (first | refine blk_drewN ?_ _ | refine blk_drew ?_ | refine blk_alloc ?_ _)); refine blk_put (cs := #[.int .i64 ((rd_T27 l0 x13_1).f0.f0), .int .i64 ((rd_T27 l0 x13_1).f0.f1), .int .i64 0, .int .i64 0, .int .i64 0, .int .i64 0, .bool false]) ?_ 2 _ rfl; (with_reducible repeat (first | refine blk_drewN ?_ _ | refine blk_drew ?_ | refine blk_alloc ?_ _)); refine blk_put (cs := #[.int .i64 ((rd_T27 l0 x13_1).f0.f0), .int .i64 0, .int .i64 0, .int .i64 0, .int .i64 0, .int .i64 0, .bool false]) ?_ 1 _ rfl; (with_reducible repeat (first | refine blk_drewN ?_ _ | refine blk_drew ?_ | refine blk_alloc ?_ _)); refine blk_put (cs := #[.int .i64 0, .int .i64 0, .int .i64 0, .int .i64 0, .int .i64 0, .int .i64 0, .bool false]) ?_ 0 _ rfl; (with_reducible repeat (first | refine blk_drewN ?_ _ | refine blk_drew ?_ | refine blk_alloc ?_ _)); exact BK117.out) hb); have n2_ := Aside0.mk (below_step (by repeat (first | (with_reducible first | exact HB.out | apply below_alloc | apply pw_below_drewN | apply below_drew1 | refine below_set ?_ GE117.out) | exact HB.out)) hb); clear HO_6; clear BK117; clear HB; have HO_6 := n0_; have BK117 := n1_; have HB := n2_; clear n0_ n1_ n2_; (try clear hb); (try clear hb2); (try clear hk); (try clear hi)) | ((with_reducible refine gate_dst (N := 9) rfl ?_); refine box_event ?hg (N := 9) ?hd (cs := #[.int .i64 0, .int .i64 0, .bool false, .int .i64 0, .int .i64 0]) (t := 104) ?hr ?_; (case hd => rfl); (case hg => rfl); (case hr => first | (go_simp; done) | (go_simp; rfl)); intro gb124 hg w18 hbox hb; have n0_ := Aside0.mk (Kd.R_below (Kd.R_elderB (by (with_reducible repeat (first | apply Kd.R_alloc | apply Kd.R_drewN | apply Kd.R_drew)); exact HO_6.out) gb124 (Nat.le_of_eq hg.symm)) hb); have n1_ := Aside0.mk (blk_below (g := gb117) (o := .cells #[.int .i64 ((rd_T27 l0 x13_1).f0.f0), .int .i64 ((rd_T27 l0 x13_1).f0.f1), .int .i64 ((rd_T27 l0 x13_1).f1.f0), .int .i64 ((rd_T27 l0 x13_1).f1.f1), .int .i64 ((rd_T27 l0 x13_1).f2), .int .i64 ((rd_T27 l0 x13_1).f3), .bool ((rd_T27 l0 x13_1).f4)] 27 (0, 0)) (by (with_reducible repeat (first | refine blk_drewN ?_ _ | refine blk_drew ?_ | refine blk_alloc ?_ _)); exact BK117.out) hb); have n2_ := Aside0.mk (below_step (by repeat (first | (with_reducible first | exact HB.out | apply below_alloc | apply pw_below_drewN | apply below_drew1 | refine below_set ?_ GE117.out) | exact HB.out)) hb); have n3_ := Aside0.mk (hbox); have n4_ := Aside0.mk ((by rw [hg]; exact (below_size (by repeat (first | (with_reducible first | exact HB.out | apply below_alloc | apply pw_below_drewN | apply below_drew1 | refine below_set ?_ GE117.out) | exact HB.out))) : w.heap.size ≤ gb124)); have n5_ := Aside0.mk ((by rw [hg]; exact (below_size (by repeat (first | (with_reducible first | exact HB.out | apply below_alloc | apply pw_below_drewN | apply below_drew1 | refine below_set ?_ GE117.out) | exact HB.out))) : w.heap.size ≤ gb124)); have n6_ := Aside0.mk ((by rw [hg]; exact Nat.ne_of_lt (blk_lt (g := gb117) (o := .cells #[.int .i64 ((rd_T27 l0 x13_1).f0.f0), .int .i64 ((rd_T27 l0 x13_1).f0.f1), .int .i64 ((rd_T27 l0 x13_1).f1.f0), .int .i64 ((rd_T27 l0 x13_1).f1.f1), .int .i64 ((rd_T27 l0 x13_1).f2), .int .i64 ((rd_T27 l0 x13_1).f3), .bool ((rd_T27 l0 x13_1).f4)] 27 (0, 0)) (by (with_reducible repeat (first | refine blk_drewN ?_ _ | refine blk_drew ?_ | refine blk_alloc ?_ _)); exact BK117.out)) : gb117 ≠ gb124)); have n7_ := Aside0.mk ((by rw [hg]; exact Nat.ne_of_gt (blk_lt (g := gb117) (o := .cells #[.int .i64 ((rd_T27 l0 x13_1).f0.f0), .int .i64 ((rd_T27 l0 x13_1).f0.f1), .int .i64 ((rd_T27 l0 x13_1).f1.f0), .int .i64 ((rd_T27 l0 x13_1).f1.f1), .int .i64 ((rd_T27 l0 x13_1).f2), .int .i64 ((rd_T27 l0 x13_1).f3), .bool ((rd_T27 l0 x13_1).f4)] 27 (0, 0)) (by (with_reducible repeat (first | refine blk_drewN ?_ _ | refine blk_drew ?_ | refine blk_alloc ?_ _)); exact BK117.out)) : gb124 ≠ gb117)); clear HO_6; clear BK117; clear HB; have HO_6 := n0_; have BK117 := n1_; have HB := n2_; have BK124 := n3_; have GW124 := n4_; have GE124 := n5_; have NB117_124 := n6_; have NB124_117 := n7_; clear n0_ n1_ n2_ n3_ n4_ n5_ n6_ n7_; clear hb hbox hg; have hnb19 := NB124_117.out; have hnc19 := NB117_124.out; have hcz20_0 : w18.cell? ⟨gb124, 0, none⟩ = some (.int .i64 0) := (blk_cell BK124.out 0).trans rfl; have hcz20_1 : w18.cell? ⟨gb124, 1, none⟩ = some (.int .i64 0) := (blk_cell BK124.out 1).trans rfl; have hcz20_2 : w18.cell? ⟨gb124, 2, none⟩ = some (.bool false) := (blk_cell BK124.out 2).trans rfl; have hcz20_3 : w18.cell? ⟨gb124, 3, none⟩ = some (.int .i64 0) := (blk_cell BK124.out 3).trans rfl; have hcz20_4 : w18.cell? ⟨gb124, 4, none⟩ = some (.int .i64 0) := (blk_cell BK124.out 4).trans rfl; have hfz20_0 := blk_frozen BK124.out 0; have hfz20_1 := blk_frozen BK124.out 1; have hfz20_2 := blk_frozen BK124.out 2; have hfz20_3 := blk_frozen BK124.out 3; have hfz20_4 := blk_frozen BK124.out 4))
              go_ret2
              exact ⟨_, by first | rfl | (simp [errW_none, errW_some] <;> rfl) | (simp [*, errW_none, errW_some] <;> rfl), by first | exact Kd.R_nil _ _ _ _ _ | exact Kd.N_nil _ _ _ _ _ | exact Kd.V_nil _ _ _ _ _ | exact Kd.Q_nil _ _ _ _ _ | exact Kd.S_nil _ _ _ _ _, by repeat (first | (with_reducible first | exact HB.out | apply below_alloc | apply pw_below_drewN | apply below_drew1 | refine below_set ?_ GE117.out | refine below_set ?_ GE124.out) | exact HB.out)⟩
          · rw [if_neg c4] at H
            exact absurd H (by simp)
        · rw [if_neg c3] at H
          exact absurd H (by simp)
      · rw [if_neg c2] at H
        have c2b0 : decide (x13_1 < (l0.length : Int)) = false := decide_eq_false c2
        clear c2
        simp only [Option.some.injEq, Prod.mk.injEq] at H
        obtain ⟨rfl, rfl⟩ := H
        go_wp2
        go_ret2
        exact ⟨_, by first | rfl | (simp [errW_none, errW_some] <;> rfl) | (simp [*, errW_none, errW_some] <;> rfl), by (with_reducible repeat (first | apply Kd.R_alloc | apply Kd.R_drewN | apply Kd.R_drew)); exact HO_6.out, by repeat (first | (with_reducible first | exact HB.out | apply below_alloc | apply pw_below_drewN | apply below_drew1) | exact HB.out)⟩
end
end Go.Proofs.YtjemaonejkepcaaDoor.G
namespace Go.Proofs.YtjemaonejkepcaaDoor.G
open Go.Proofs.YtjemaonejkepcaaDoor.B
open Go.RowKit Go.Proofs.YtjemaonejkepcaaDoorW.PrintWords Go.Proofs.YtjemaonejkepcaaDoorW.PrintLast Go.Proofs.YtjemaonejkepcaaDoorW.PrintMore
attribute [local go_sem] max2_int min2_int max_two min_two max_three min_three max_four min_four   -- for this text's walks alone
set_option linter.unusedVariables false
set_option linter.unusedSimpArgs false
theorem gauge_Design.tool (sz : List Int) (wear make : Int) (gs gm : Nat) (B : Option Addr) (d : Nat) (k : Nat) (A0 : Option Addr) (c0 : Nat) (l0 : List (S27)) (r1 : List (S104)) (r2 : Int) (w : World) (hr0 : Kd.C k27 w A0 l0.length l0) (hc0 : l0.length ≤ c0) (h : @gauge_Element.f (Dat82.mk sz wear make) k l0 = some (r1, r2)) (hs : w.heap[gs]? = some (.cells #[.slice B sz.length d] 58 (0, 0))) (hm : w.heap[gm]? = some (.cells #[.int .i64 wear, .int .i64 make] 44 (0, 0))) (hC : Kd.C (Kd.int .i64) w B sz.length sz) :
    Calls Tryd.prog 81 #[.slice A0 l0.length c0, .func (.func 82) #[] #[.pointer (some ⟨gs, 0, none⟩), .pointer (some ⟨gm, 0, none⟩)]] w fun e w' => ∃ v0_ : Value, e = .returned (.tuple #[v0_, .int .i64 r2]) ∧ Kd.R k104 104 w' w.heap.size (fun _ => True) v0_ r1 ∧ Below w.heap.size w w' :=
  @gauge_Element.calls (Dat82.mk sz wear make) (Adr82.mk gs gm B d) k A0 c0 l0 r1 r2 w hr0 hc0 h ⟨hs, hm, hC⟩
def gauge_Design.f (k : Nat) (l0 : List (S27)) (wear make : Int) : Option (List (S104) × Int) := (gauge_virtual.f k l0).bind fun b => if b.2 = 0 then (if wear < 0 then some (([] : List (S104)), 2) else if 100000 < wear then some (([] : List (S104)), 2) else if make < 0 then some (([] : List (S104)), 2) else if 100000 < make then some (([] : List (S104)), 2) else @gauge_Element.f (Dat82.mk b.1 wear make) k l0) else some (([] : List (S104)), b.2)
theorem gauge_Design.mono : ∀ a0 a1 a2 k, LeO (gauge_Design.f k a0 a1 a2) (gauge_Design.f (k + 1) a0 a1 a2) := by
  intro a0 a1 a2 k
  unfold gauge_Design.f
  exact LeO.bind (gauge_virtual.mono _ _) (fun b => LeO.ite (LeO.ite (LeO.refl _) (LeO.ite (LeO.refl _) (LeO.ite (LeO.refl _) (LeO.ite (LeO.refl _) (@gauge_Element.mono (Dat82.mk b.1 a1 a2) _ _))))) (LeO.refl _))
theorem gauge_Design.at0 (a b : Int) (w : World) : Sem.run Tryd.prog (Instr.index 121 (.agg #[.int .i64 a, .int .i64 b]) (.int .i64 0)) w = .ok (.int .i64 a) w := by
  have h := Tryd.underlying121
  simp [Instr.index, go_sem, h]
theorem gauge_Design.at1 (a b : Int) (w : World) : Sem.run Tryd.prog (Instr.index 121 (.agg #[.int .i64 a, .int .i64 b]) (.int .i64 1)) w = .ok (.int .i64 b) w := by
  have h := Tryd.underlying121
  simp [Instr.index, go_sem, h]
attribute [local go_sem high] gauge_Design.at0 gauge_Design.at1
set_option maxHeartbeats 8000000 in
set_option maxRecDepth 100000 in
theorem gauge_Design.calls (k : Nat) (A0 : Option Addr) (c0 : Nat) (l0 : List (S27)) (wear make : Int) (r1 : List (S104)) (r2 : Int) (w : World) (hr0 : Kd.C k27 w A0 l0.length l0) (hc0 : l0.length ≤ c0) (h : gauge_Design.f k l0 wear make = some (r1, r2)) (hS : SignsAt w) :
    Calls Tryd.prog 31 #[.slice A0 l0.length c0, .agg #[.int .i64 wear, .int .i64 make]] w fun e w' => ∃ v0_ : Value, e = .returned (.tuple #[v0_, .int .i64 r2]) ∧ Kd.R k104 104 w' w.heap.size (fun _ => True) v0_ r1 ∧ Below w.heap.size w w' := by
  have hu44 := Tryd.underlying44
  have hu121 := Tryd.underlying121
  have HR0 := Aside0.mk hr0
  have HC0 := Aside0.mk hc0
  have HS := Aside0.mk hS
  have HB := Aside0.mk (Below.refl w.heap.size w)
  clear hr0 hc0 hS
  obtain ⟨⟨sz, t⟩, A30, H⟩ := Option.bind_eq_some_iff.mp h
  replace H : (if t = 0 then (if wear < 0 then some (([] : List (S104)), 2) else if 100000 < wear then some (([] : List (S104)), 2) else if make < 0 then some (([] : List (S104)), 2) else if 100000 < make then some (([] : List (S104)), 2) else @gauge_Element.f (Dat82.mk sz wear make) k l0) else some (([] : List (S104)), t)) = some (r1, r2) := H
  clear h
  have A3 := Aside0.mk A30
  clear A30
  by_cases c4 : t = 0
  · rw [if_pos c4] at H
    have c4b1 : (t != 0) = false := bne_eq_false_iff_eq.mpr c4
    clear c4
    by_cases a1 : wear < 0
    · rw [if_pos a1] at H
      simp only [Option.some.injEq, Prod.mk.injEq] at H
      obtain ⟨rfl, rfl⟩ := H
      have a1b : decide (wear < 0) = true := decide_eq_true a1
      go_enter Tryd.func31, Tryd.ntmps31
      go_upto_region 2 with (first
        | ((with_reducible refine gate_dst (N := 3) rfl ?_); refine box_event ?hg (N := 3) ?hd (cs := #[.int .i64 wear, .int .i64 make]) (t := 44) ?hr ?_; (case hd => rfl); (case hg => rfl); (case hr => first | (go_simp; done) | (go_simp; rfl)); intro g3 hg wg3 hbox hb; have m0_ := Aside0.mk (by rw [hg]; exact below_size (by repeat (first | (with_reducible first | exact HB.out | apply below_alloc | apply pw_below_drewN | apply below_drew1) | exact HB.out)) : w.heap.size ≤ g3); have m1_ := Aside0.mk (below_step (by repeat (first | (with_reducible first | exact HB.out | apply below_alloc | apply pw_below_drewN | apply below_drew1) | exact HB.out)) hb); clear HB ; have HB := m1_; have GEg3 := m0_; have B3 := Aside0.mk hbox; clear hg hbox hb)
        | ((with_reducible refine gate_callee (f := 80) rfl ?_); refine goesL_ (some 12) rfl rfl Tryd.func80 (by kernel_rfl) rfl #[.slice A0 l0.length c0] rfl (by (try simp only [List.map_toArray, List.map_cons, List.map_nil]); first | done | rfl | (simp only [List.length_drop, List.length_take]; rfl)) ?_; (with_reducible refine (gauge_virtual.calls k _ _ l0 sz t _ ?side1 ?side2 A3.out (by exact sig_below HS.out (by repeat (first | (with_reducible first | exact HB.out | apply below_alloc | apply pw_below_drewN | apply below_drew1) | exact HB.out)))).mono ?_); (case side1 => repeat (first | exact (Kd.C_below HR0.out HB.out) | (with_reducible refine Kd.C_alloc ?_ _) | (with_reducible refine Kd.C_drewN ?_ _) | (with_reducible refine Kd.C_drew ?_))); (case side2 => exact HC0.out); rintro e w6 ⟨v114, rfl, ho0, hb⟩; refine ⟨_, rfl, ?_⟩; have o0_ := Aside0.mk (blk_below B3.out hb); have n0_ := Aside0.mk (Kd.R_lower ho0 (below_size (by repeat (first | (with_reducible first | exact HB.out | apply below_alloc | apply pw_below_drewN | apply below_drew1) | exact HB.out)))); have n1_ := Aside0.mk (below_step (by repeat (first | (with_reducible first | exact HB.out | apply below_alloc | apply pw_below_drewN | apply below_drew1) | exact HB.out)) hb); clear HB B3; have HO := n0_; have HB := n1_; have B3 := o0_; clear n0_ n1_ hb ho0; obtain ⟨Ao, co, eo⟩ := Kd.R_slice HO.out; subst eo)
        | ((with_reducible refine gate_dst (N := 6) rfl ?_); refine box_event ?hg (N := 6) ?hd (cs := #[.slice none 0 0]) (t := 58) ?hr ?_; (case hd => rfl); (case hg => rfl); (case hr => first | (go_simp; done) | (go_simp; rfl)); intro g6 hg wg6 hbox hb; have m0_ := Aside0.mk (by rw [hg]; exact below_size (by repeat (first | (with_reducible first | exact HB.out | apply below_alloc | apply pw_below_drewN | apply below_drew1) | exact HB.out)) : w.heap.size ≤ g6); have m1_ := Aside0.mk (below_step (by repeat (first | (with_reducible first | exact HB.out | apply below_alloc | apply pw_below_drewN | apply below_drew1) | exact HB.out)) hb); have o0_ := Aside0.mk (blk_below B3.out hb); have q0_ := Aside0.mk (by rw [hg]; exact Nat.ne_of_gt (blk_lt B3.out) : g6 ≠ _); have h_ := Aside0.mk (Kd.R_below (Kd.R_elderB (by (with_reducible repeat (first | apply Kd.R_alloc | apply Kd.R_drewN | apply Kd.R_drew)); exact HO.out) g6 (Nat.le_of_eq hg.symm)) hb); clear HB B3 HO; have HB := m1_; have GEg6 := m0_; have B3 := o0_; have NE63 := q0_; have HO := h_; have B6 := Aside0.mk hbox; clear hg hbox hb; have f0 : wg6.cell? ⟨g6, 0, none⟩ = some (.slice none 0 0) := (blk_cell B6.out 0).trans rfl; have f1 := blk_frozen B6.out 0))
      have HB7 := below_set HB.out (j := 0) (v := (.slice Ao sz.length co)) GEg6.out
      have B37 := blk_far B3.out (p := ⟨g6, 0, none⟩) NE63.out.symm (.slice Ao sz.length co)
      have B67 := blk_put B6.out 0 (.slice Ao sz.length co) rfl
      have HO7 := Kd.R_mono (Kd.R_far (p := ⟨g6, 0, none⟩) HO.out (fun _ hk => hk.2) (.slice Ao sz.length co)) (ok' := fun _ => True) (fun _ _ => trivial)
      generalize wg6.setCell ⟨g6, 0, none⟩ (.slice Ao sz.length co) = w7 at HB7 B37 B67 HO7 ⊢
      clear HB B3 B6 HO f0 f1 NE63
      have HB := Aside0.mk HB7
      have B3 := Aside0.mk B37
      have B6 := Aside0.mk B67
      have HO := Aside0.mk HO7
      have m0 : w7.cell? ⟨g3, 0, none⟩ = some (.int .i64 wear) := (blk_cell B3.out 0).trans rfl
      have m1 : w7.cell? ⟨g3, 1, none⟩ = some (.int .i64 make) := (blk_cell B3.out 1).trans rfl
      clear HB7 B37 B67 HO7
      go_wp2
      refine wp_loop_rounds 3 ?_
      repeat any_goals (rw [rounds_succ]; go_wp2)
      go_ret2
      exact ⟨_, by first | rfl | (simp [errW_none, errW_some] <;> rfl) | (simp [*, errW_none, errW_some] <;> rfl), by first | exact Kd.R_nil _ _ _ _ _, by repeat (first | (with_reducible first | exact HB.out | apply below_alloc | apply pw_below_drewN | apply below_drew1) | exact HB.out)⟩
    · rw [if_neg a1] at H
      have a1b : decide (wear < 0) = false := decide_eq_false a1
      by_cases a2 : 100000 < wear
      · rw [if_pos a2] at H
        simp only [Option.some.injEq, Prod.mk.injEq] at H
        obtain ⟨rfl, rfl⟩ := H
        have a2b : decide (100000 < wear) = true := decide_eq_true a2
        go_enter Tryd.func31, Tryd.ntmps31
        go_upto_region 2 with (first
          | ((with_reducible refine gate_dst (N := 3) rfl ?_); refine box_event ?hg (N := 3) ?hd (cs := #[.int .i64 wear, .int .i64 make]) (t := 44) ?hr ?_; (case hd => rfl); (case hg => rfl); (case hr => first | (go_simp; done) | (go_simp; rfl)); intro g3 hg wg3 hbox hb; have m0_ := Aside0.mk (by rw [hg]; exact below_size (by repeat (first | (with_reducible first | exact HB.out | apply below_alloc | apply pw_below_drewN | apply below_drew1) | exact HB.out)) : w.heap.size ≤ g3); have m1_ := Aside0.mk (below_step (by repeat (first | (with_reducible first | exact HB.out | apply below_alloc | apply pw_below_drewN | apply below_drew1) | exact HB.out)) hb); clear HB ; have HB := m1_; have GEg3 := m0_; have B3 := Aside0.mk hbox; clear hg hbox hb)
          | ((with_reducible refine gate_callee (f := 80) rfl ?_); refine goesL_ (some 12) rfl rfl Tryd.func80 (by kernel_rfl) rfl #[.slice A0 l0.length c0] rfl (by (try simp only [List.map_toArray, List.map_cons, List.map_nil]); first | done | rfl | (simp only [List.length_drop, List.length_take]; rfl)) ?_; (with_reducible refine (gauge_virtual.calls k _ _ l0 sz t _ ?side1 ?side2 A3.out (by exact sig_below HS.out (by repeat (first | (with_reducible first | exact HB.out | apply below_alloc | apply pw_below_drewN | apply below_drew1) | exact HB.out)))).mono ?_); (case side1 => repeat (first | exact (Kd.C_below HR0.out HB.out) | (with_reducible refine Kd.C_alloc ?_ _) | (with_reducible refine Kd.C_drewN ?_ _) | (with_reducible refine Kd.C_drew ?_))); (case side2 => exact HC0.out); rintro e w6 ⟨v114, rfl, ho0, hb⟩; refine ⟨_, rfl, ?_⟩; have o0_ := Aside0.mk (blk_below B3.out hb); have n0_ := Aside0.mk (Kd.R_lower ho0 (below_size (by repeat (first | (with_reducible first | exact HB.out | apply below_alloc | apply pw_below_drewN | apply below_drew1) | exact HB.out)))); have n1_ := Aside0.mk (below_step (by repeat (first | (with_reducible first | exact HB.out | apply below_alloc | apply pw_below_drewN | apply below_drew1) | exact HB.out)) hb); clear HB B3; have HO := n0_; have HB := n1_; have B3 := o0_; clear n0_ n1_ hb ho0; obtain ⟨Ao, co, eo⟩ := Kd.R_slice HO.out; subst eo)
          | ((with_reducible refine gate_dst (N := 6) rfl ?_); refine box_event ?hg (N := 6) ?hd (cs := #[.slice none 0 0]) (t := 58) ?hr ?_; (case hd => rfl); (case hg => rfl); (case hr => first | (go_simp; done) | (go_simp; rfl)); intro g6 hg wg6 hbox hb; have m0_ := Aside0.mk (by rw [hg]; exact below_size (by repeat (first | (with_reducible first | exact HB.out | apply below_alloc | apply pw_below_drewN | apply below_drew1) | exact HB.out)) : w.heap.size ≤ g6); have m1_ := Aside0.mk (below_step (by repeat (first | (with_reducible first | exact HB.out | apply below_alloc | apply pw_below_drewN | apply below_drew1) | exact HB.out)) hb); have o0_ := Aside0.mk (blk_below B3.out hb); have q0_ := Aside0.mk (by rw [hg]; exact Nat.ne_of_gt (blk_lt B3.out) : g6 ≠ _); have h_ := Aside0.mk (Kd.R_below (Kd.R_elderB (by (with_reducible repeat (first | apply Kd.R_alloc | apply Kd.R_drewN | apply Kd.R_drew)); exact HO.out) g6 (Nat.le_of_eq hg.symm)) hb); clear HB B3 HO; have HB := m1_; have GEg6 := m0_; have B3 := o0_; have NE63 := q0_; have HO := h_; have B6 := Aside0.mk hbox; clear hg hbox hb; have f0 : wg6.cell? ⟨g6, 0, none⟩ = some (.slice none 0 0) := (blk_cell B6.out 0).trans rfl; have f1 := blk_frozen B6.out 0))
        have HB7 := below_set HB.out (j := 0) (v := (.slice Ao sz.length co)) GEg6.out
        have B37 := blk_far B3.out (p := ⟨g6, 0, none⟩) NE63.out.symm (.slice Ao sz.length co)
        have B67 := blk_put B6.out 0 (.slice Ao sz.length co) rfl
        have HO7 := Kd.R_mono (Kd.R_far (p := ⟨g6, 0, none⟩) HO.out (fun _ hk => hk.2) (.slice Ao sz.length co)) (ok' := fun _ => True) (fun _ _ => trivial)
        generalize wg6.setCell ⟨g6, 0, none⟩ (.slice Ao sz.length co) = w7 at HB7 B37 B67 HO7 ⊢
        clear HB B3 B6 HO f0 f1 NE63
        have HB := Aside0.mk HB7
        have B3 := Aside0.mk B37
        have B6 := Aside0.mk B67
        have HO := Aside0.mk HO7
        have m0 : w7.cell? ⟨g3, 0, none⟩ = some (.int .i64 wear) := (blk_cell B3.out 0).trans rfl
        have m1 : w7.cell? ⟨g3, 1, none⟩ = some (.int .i64 make) := (blk_cell B3.out 1).trans rfl
        clear HB7 B37 B67 HO7
        go_wp2
        refine wp_loop_rounds 3 ?_
        repeat any_goals (rw [rounds_succ]; go_wp2)
        go_ret2
        exact ⟨_, by first | rfl | (simp [errW_none, errW_some] <;> rfl) | (simp [*, errW_none, errW_some] <;> rfl), by first | exact Kd.R_nil _ _ _ _ _, by repeat (first | (with_reducible first | exact HB.out | apply below_alloc | apply pw_below_drewN | apply below_drew1) | exact HB.out)⟩
      · rw [if_neg a2] at H
        have a2b : decide (100000 < wear) = false := decide_eq_false a2
        by_cases a3 : make < 0
        · rw [if_pos a3] at H
          simp only [Option.some.injEq, Prod.mk.injEq] at H
          obtain ⟨rfl, rfl⟩ := H
          have a3b : decide (make < 0) = true := decide_eq_true a3
          go_enter Tryd.func31, Tryd.ntmps31
          go_upto_region 2 with (first
            | ((with_reducible refine gate_dst (N := 3) rfl ?_); refine box_event ?hg (N := 3) ?hd (cs := #[.int .i64 wear, .int .i64 make]) (t := 44) ?hr ?_; (case hd => rfl); (case hg => rfl); (case hr => first | (go_simp; done) | (go_simp; rfl)); intro g3 hg wg3 hbox hb; have m0_ := Aside0.mk (by rw [hg]; exact below_size (by repeat (first | (with_reducible first | exact HB.out | apply below_alloc | apply pw_below_drewN | apply below_drew1) | exact HB.out)) : w.heap.size ≤ g3); have m1_ := Aside0.mk (below_step (by repeat (first | (with_reducible first | exact HB.out | apply below_alloc | apply pw_below_drewN | apply below_drew1) | exact HB.out)) hb); clear HB ; have HB := m1_; have GEg3 := m0_; have B3 := Aside0.mk hbox; clear hg hbox hb)
            | ((with_reducible refine gate_callee (f := 80) rfl ?_); refine goesL_ (some 12) rfl rfl Tryd.func80 (by kernel_rfl) rfl #[.slice A0 l0.length c0] rfl (by (try simp only [List.map_toArray, List.map_cons, List.map_nil]); first | done | rfl | (simp only [List.length_drop, List.length_take]; rfl)) ?_; (with_reducible refine (gauge_virtual.calls k _ _ l0 sz t _ ?side1 ?side2 A3.out (by exact sig_below HS.out (by repeat (first | (with_reducible first | exact HB.out | apply below_alloc | apply pw_below_drewN | apply below_drew1) | exact HB.out)))).mono ?_); (case side1 => repeat (first | exact (Kd.C_below HR0.out HB.out) | (with_reducible refine Kd.C_alloc ?_ _) | (with_reducible refine Kd.C_drewN ?_ _) | (with_reducible refine Kd.C_drew ?_))); (case side2 => exact HC0.out); rintro e w6 ⟨v114, rfl, ho0, hb⟩; refine ⟨_, rfl, ?_⟩; have o0_ := Aside0.mk (blk_below B3.out hb); have n0_ := Aside0.mk (Kd.R_lower ho0 (below_size (by repeat (first | (with_reducible first | exact HB.out | apply below_alloc | apply pw_below_drewN | apply below_drew1) | exact HB.out)))); have n1_ := Aside0.mk (below_step (by repeat (first | (with_reducible first | exact HB.out | apply below_alloc | apply pw_below_drewN | apply below_drew1) | exact HB.out)) hb); clear HB B3; have HO := n0_; have HB := n1_; have B3 := o0_; clear n0_ n1_ hb ho0; obtain ⟨Ao, co, eo⟩ := Kd.R_slice HO.out; subst eo)
            | ((with_reducible refine gate_dst (N := 6) rfl ?_); refine box_event ?hg (N := 6) ?hd (cs := #[.slice none 0 0]) (t := 58) ?hr ?_; (case hd => rfl); (case hg => rfl); (case hr => first | (go_simp; done) | (go_simp; rfl)); intro g6 hg wg6 hbox hb; have m0_ := Aside0.mk (by rw [hg]; exact below_size (by repeat (first | (with_reducible first | exact HB.out | apply below_alloc | apply pw_below_drewN | apply below_drew1) | exact HB.out)) : w.heap.size ≤ g6); have m1_ := Aside0.mk (below_step (by repeat (first | (with_reducible first | exact HB.out | apply below_alloc | apply pw_below_drewN | apply below_drew1) | exact HB.out)) hb); have o0_ := Aside0.mk (blk_below B3.out hb); have q0_ := Aside0.mk (by rw [hg]; exact Nat.ne_of_gt (blk_lt B3.out) : g6 ≠ _); have h_ := Aside0.mk (Kd.R_below (Kd.R_elderB (by (with_reducible repeat (first | apply Kd.R_alloc | apply Kd.R_drewN | apply Kd.R_drew)); exact HO.out) g6 (Nat.le_of_eq hg.symm)) hb); clear HB B3 HO; have HB := m1_; have GEg6 := m0_; have B3 := o0_; have NE63 := q0_; have HO := h_; have B6 := Aside0.mk hbox; clear hg hbox hb; have f0 : wg6.cell? ⟨g6, 0, none⟩ = some (.slice none 0 0) := (blk_cell B6.out 0).trans rfl; have f1 := blk_frozen B6.out 0))
          have HB7 := below_set HB.out (j := 0) (v := (.slice Ao sz.length co)) GEg6.out
          have B37 := blk_far B3.out (p := ⟨g6, 0, none⟩) NE63.out.symm (.slice Ao sz.length co)
          have B67 := blk_put B6.out 0 (.slice Ao sz.length co) rfl
          have HO7 := Kd.R_mono (Kd.R_far (p := ⟨g6, 0, none⟩) HO.out (fun _ hk => hk.2) (.slice Ao sz.length co)) (ok' := fun _ => True) (fun _ _ => trivial)
          generalize wg6.setCell ⟨g6, 0, none⟩ (.slice Ao sz.length co) = w7 at HB7 B37 B67 HO7 ⊢
          clear HB B3 B6 HO f0 f1 NE63
          have HB := Aside0.mk HB7
          have B3 := Aside0.mk B37
          have B6 := Aside0.mk B67
          have HO := Aside0.mk HO7
          have m0 : w7.cell? ⟨g3, 0, none⟩ = some (.int .i64 wear) := (blk_cell B3.out 0).trans rfl
          have m1 : w7.cell? ⟨g3, 1, none⟩ = some (.int .i64 make) := (blk_cell B3.out 1).trans rfl
          clear HB7 B37 B67 HO7
          go_wp2
          refine wp_loop_rounds 3 ?_
          repeat any_goals (rw [rounds_succ]; go_wp2)
          go_ret2
          exact ⟨_, by first | rfl | (simp [errW_none, errW_some] <;> rfl) | (simp [*, errW_none, errW_some] <;> rfl), by first | exact Kd.R_nil _ _ _ _ _, by repeat (first | (with_reducible first | exact HB.out | apply below_alloc | apply pw_below_drewN | apply below_drew1) | exact HB.out)⟩
        · rw [if_neg a3] at H
          have a3b : decide (make < 0) = false := decide_eq_false a3
          by_cases a4 : 100000 < make
          · rw [if_pos a4] at H
            simp only [Option.some.injEq, Prod.mk.injEq] at H
            obtain ⟨rfl, rfl⟩ := H
            have a4b : decide (100000 < make) = true := decide_eq_true a4
            go_enter Tryd.func31, Tryd.ntmps31
            go_upto_region 2 with (first
              | ((with_reducible refine gate_dst (N := 3) rfl ?_); refine box_event ?hg (N := 3) ?hd (cs := #[.int .i64 wear, .int .i64 make]) (t := 44) ?hr ?_; (case hd => rfl); (case hg => rfl); (case hr => first | (go_simp; done) | (go_simp; rfl)); intro g3 hg wg3 hbox hb; have m0_ := Aside0.mk (by rw [hg]; exact below_size (by repeat (first | (with_reducible first | exact HB.out | apply below_alloc | apply pw_below_drewN | apply below_drew1) | exact HB.out)) : w.heap.size ≤ g3); have m1_ := Aside0.mk (below_step (by repeat (first | (with_reducible first | exact HB.out | apply below_alloc | apply pw_below_drewN | apply below_drew1) | exact HB.out)) hb); clear HB ; have HB := m1_; have GEg3 := m0_; have B3 := Aside0.mk hbox; clear hg hbox hb)
              | ((with_reducible refine gate_callee (f := 80) rfl ?_); refine goesL_ (some 12) rfl rfl Tryd.func80 (by kernel_rfl) rfl #[.slice A0 l0.length c0] rfl (by (try simp only [List.map_toArray, List.map_cons, List.map_nil]); first | done | rfl | (simp only [List.length_drop, List.length_take]; rfl)) ?_; (with_reducible refine (gauge_virtual.calls k _ _ l0 sz t _ ?side1 ?side2 A3.out (by exact sig_below HS.out (by repeat (first | (with_reducible first | exact HB.out | apply below_alloc | apply pw_below_drewN | apply below_drew1) | exact HB.out)))).mono ?_); (case side1 => repeat (first | exact (Kd.C_below HR0.out HB.out) | (with_reducible refine Kd.C_alloc ?_ _) | (with_reducible refine Kd.C_drewN ?_ _) | (with_reducible refine Kd.C_drew ?_))); (case side2 => exact HC0.out); rintro e w6 ⟨v114, rfl, ho0, hb⟩; refine ⟨_, rfl, ?_⟩; have o0_ := Aside0.mk (blk_below B3.out hb); have n0_ := Aside0.mk (Kd.R_lower ho0 (below_size (by repeat (first | (with_reducible first | exact HB.out | apply below_alloc | apply pw_below_drewN | apply below_drew1) | exact HB.out)))); have n1_ := Aside0.mk (below_step (by repeat (first | (with_reducible first | exact HB.out | apply below_alloc | apply pw_below_drewN | apply below_drew1) | exact HB.out)) hb); clear HB B3; have HO := n0_; have HB := n1_; have B3 := o0_; clear n0_ n1_ hb ho0; obtain ⟨Ao, co, eo⟩ := Kd.R_slice HO.out; subst eo)
              | ((with_reducible refine gate_dst (N := 6) rfl ?_); refine box_event ?hg (N := 6) ?hd (cs := #[.slice none 0 0]) (t := 58) ?hr ?_; (case hd => rfl); (case hg => rfl); (case hr => first | (go_simp; done) | (go_simp; rfl)); intro g6 hg wg6 hbox hb; have m0_ := Aside0.mk (by rw [hg]; exact below_size (by repeat (first | (with_reducible first | exact HB.out | apply below_alloc | apply pw_below_drewN | apply below_drew1) | exact HB.out)) : w.heap.size ≤ g6); have m1_ := Aside0.mk (below_step (by repeat (first | (with_reducible first | exact HB.out | apply below_alloc | apply pw_below_drewN | apply below_drew1) | exact HB.out)) hb); have o0_ := Aside0.mk (blk_below B3.out hb); have q0_ := Aside0.mk (by rw [hg]; exact Nat.ne_of_gt (blk_lt B3.out) : g6 ≠ _); have h_ := Aside0.mk (Kd.R_below (Kd.R_elderB (by (with_reducible repeat (first | apply Kd.R_alloc | apply Kd.R_drewN | apply Kd.R_drew)); exact HO.out) g6 (Nat.le_of_eq hg.symm)) hb); clear HB B3 HO; have HB := m1_; have GEg6 := m0_; have B3 := o0_; have NE63 := q0_; have HO := h_; have B6 := Aside0.mk hbox; clear hg hbox hb; have f0 : wg6.cell? ⟨g6, 0, none⟩ = some (.slice none 0 0) := (blk_cell B6.out 0).trans rfl; have f1 := blk_frozen B6.out 0))
            have HB7 := below_set HB.out (j := 0) (v := (.slice Ao sz.length co)) GEg6.out
            have B37 := blk_far B3.out (p := ⟨g6, 0, none⟩) NE63.out.symm (.slice Ao sz.length co)
            have B67 := blk_put B6.out 0 (.slice Ao sz.length co) rfl
            have HO7 := Kd.R_mono (Kd.R_far (p := ⟨g6, 0, none⟩) HO.out (fun _ hk => hk.2) (.slice Ao sz.length co)) (ok' := fun _ => True) (fun _ _ => trivial)
            generalize wg6.setCell ⟨g6, 0, none⟩ (.slice Ao sz.length co) = w7 at HB7 B37 B67 HO7 ⊢
            clear HB B3 B6 HO f0 f1 NE63
            have HB := Aside0.mk HB7
            have B3 := Aside0.mk B37
            have B6 := Aside0.mk B67
            have HO := Aside0.mk HO7
            have m0 : w7.cell? ⟨g3, 0, none⟩ = some (.int .i64 wear) := (blk_cell B3.out 0).trans rfl
            have m1 : w7.cell? ⟨g3, 1, none⟩ = some (.int .i64 make) := (blk_cell B3.out 1).trans rfl
            clear HB7 B37 B67 HO7
            go_wp2
            refine wp_loop_rounds 3 ?_
            repeat any_goals (rw [rounds_succ]; go_wp2)
            go_ret2
            exact ⟨_, by first | rfl | (simp [errW_none, errW_some] <;> rfl) | (simp [*, errW_none, errW_some] <;> rfl), by first | exact Kd.R_nil _ _ _ _ _, by repeat (first | (with_reducible first | exact HB.out | apply below_alloc | apply pw_below_drewN | apply below_drew1) | exact HB.out)⟩
          · rw [if_neg a4] at H
            have a4b : decide (100000 < make) = false := decide_eq_false a4
            go_enter Tryd.func31, Tryd.ntmps31
            go_upto_region 2 with (first
              | ((with_reducible refine gate_dst (N := 3) rfl ?_); refine box_event ?hg (N := 3) ?hd (cs := #[.int .i64 wear, .int .i64 make]) (t := 44) ?hr ?_; (case hd => rfl); (case hg => rfl); (case hr => first | (go_simp; done) | (go_simp; rfl)); intro g3 hg wg3 hbox hb; have m0_ := Aside0.mk (by rw [hg]; exact below_size (by repeat (first | (with_reducible first | exact HB.out | apply below_alloc | apply pw_below_drewN | apply below_drew1) | exact HB.out)) : w.heap.size ≤ g3); have m1_ := Aside0.mk (below_step (by repeat (first | (with_reducible first | exact HB.out | apply below_alloc | apply pw_below_drewN | apply below_drew1) | exact HB.out)) hb); clear HB ; have HB := m1_; have GEg3 := m0_; have B3 := Aside0.mk hbox; clear hg hbox hb)
              | ((with_reducible refine gate_callee (f := 80) rfl ?_); refine goesL_ (some 12) rfl rfl Tryd.func80 (by kernel_rfl) rfl #[.slice A0 l0.length c0] rfl (by (try simp only [List.map_toArray, List.map_cons, List.map_nil]); first | done | rfl | (simp only [List.length_drop, List.length_take]; rfl)) ?_; (with_reducible refine (gauge_virtual.calls k _ _ l0 sz t _ ?side1 ?side2 A3.out (by exact sig_below HS.out (by repeat (first | (with_reducible first | exact HB.out | apply below_alloc | apply pw_below_drewN | apply below_drew1) | exact HB.out)))).mono ?_); (case side1 => repeat (first | exact (Kd.C_below HR0.out HB.out) | (with_reducible refine Kd.C_alloc ?_ _) | (with_reducible refine Kd.C_drewN ?_ _) | (with_reducible refine Kd.C_drew ?_))); (case side2 => exact HC0.out); rintro e w6 ⟨v114, rfl, ho0, hb⟩; refine ⟨_, rfl, ?_⟩; have o0_ := Aside0.mk (blk_below B3.out hb); have n0_ := Aside0.mk (Kd.R_lower ho0 (below_size (by repeat (first | (with_reducible first | exact HB.out | apply below_alloc | apply pw_below_drewN | apply below_drew1) | exact HB.out)))); have n1_ := Aside0.mk (below_step (by repeat (first | (with_reducible first | exact HB.out | apply below_alloc | apply pw_below_drewN | apply below_drew1) | exact HB.out)) hb); clear HB B3; have HO := n0_; have HB := n1_; have B3 := o0_; clear n0_ n1_ hb ho0; obtain ⟨Ao, co, eo⟩ := Kd.R_slice HO.out; subst eo)
              | ((with_reducible refine gate_dst (N := 6) rfl ?_); refine box_event ?hg (N := 6) ?hd (cs := #[.slice none 0 0]) (t := 58) ?hr ?_; (case hd => rfl); (case hg => rfl); (case hr => first | (go_simp; done) | (go_simp; rfl)); intro g6 hg wg6 hbox hb; have m0_ := Aside0.mk (by rw [hg]; exact below_size (by repeat (first | (with_reducible first | exact HB.out | apply below_alloc | apply pw_below_drewN | apply below_drew1) | exact HB.out)) : w.heap.size ≤ g6); have m1_ := Aside0.mk (below_step (by repeat (first | (with_reducible first | exact HB.out | apply below_alloc | apply pw_below_drewN | apply below_drew1) | exact HB.out)) hb); have o0_ := Aside0.mk (blk_below B3.out hb); have q0_ := Aside0.mk (by rw [hg]; exact Nat.ne_of_gt (blk_lt B3.out) : g6 ≠ _); have h_ := Aside0.mk (Kd.R_below (Kd.R_elderB (by (with_reducible repeat (first | apply Kd.R_alloc | apply Kd.R_drewN | apply Kd.R_drew)); exact HO.out) g6 (Nat.le_of_eq hg.symm)) hb); clear HB B3 HO; have HB := m1_; have GEg6 := m0_; have B3 := o0_; have NE63 := q0_; have HO := h_; have B6 := Aside0.mk hbox; clear hg hbox hb; have f0 : wg6.cell? ⟨g6, 0, none⟩ = some (.slice none 0 0) := (blk_cell B6.out 0).trans rfl; have f1 := blk_frozen B6.out 0))
            have HB7 := below_set HB.out (j := 0) (v := (.slice Ao sz.length co)) GEg6.out
            have B37 := blk_far B3.out (p := ⟨g6, 0, none⟩) NE63.out.symm (.slice Ao sz.length co)
            have B67 := blk_put B6.out 0 (.slice Ao sz.length co) rfl
            have HO7 := Kd.R_mono (Kd.R_far (p := ⟨g6, 0, none⟩) HO.out (fun _ hk => hk.2) (.slice Ao sz.length co)) (ok' := fun _ => True) (fun _ _ => trivial)
            generalize wg6.setCell ⟨g6, 0, none⟩ (.slice Ao sz.length co) = w7 at HB7 B37 B67 HO7 ⊢
            clear HB B3 B6 HO f0 f1 NE63
            have HB := Aside0.mk HB7
            have B3 := Aside0.mk B37
            have B6 := Aside0.mk B67
            have HO := Aside0.mk HO7
            have m0 : w7.cell? ⟨g3, 0, none⟩ = some (.int .i64 wear) := (blk_cell B3.out 0).trans rfl
            have m1 : w7.cell? ⟨g3, 1, none⟩ = some (.int .i64 make) := (blk_cell B3.out 1).trans rfl
            clear HB7 B37 B67 HO7
            go_wp2
            refine wp_loop_rounds 3 ?_
            rw [rounds_succ]
            go_wp2
            rw [rounds_succ]
            go_wp2
            rw [rounds_succ]
            go_wp2_with (first | (go_at_call 81; (with_reducible refine (gauge_Design.tool sz wear make g6 g3 Ao co k _ _ l0 r1 r2 _ ?side1 ?side2 H ?side3 ?side4 ?side5).mono ?_); (case side1 => repeat (first | exact (Kd.C_below HR0.out HB.out) | (with_reducible refine Kd.C_alloc ?_ _) | (with_reducible refine Kd.C_drewN ?_ _) | (with_reducible refine Kd.C_drew ?_))); (case side2 => exact HC0.out); (case side3 => exact B6.out); (case side4 => exact B3.out); (case side5 => exact (Kd.R_reads' HO.out).2.2); rintro e w8 ⟨v114, rfl, ho0, hb⟩; have n0_ := Aside0.mk (Kd.R_lower ho0 (below_size (by repeat (first | (with_reducible first | exact HB.out | apply below_alloc | apply pw_below_drewN | apply below_drew1) | exact HB.out)))); have n1_ := Aside0.mk (below_step (by repeat (first | (with_reducible first | exact HB.out | apply below_alloc | apply pw_below_drewN | apply below_drew1) | exact HB.out)) hb); clear HB; have HO1 := n0_; have HB := n1_; clear n0_ n1_ hb ho0))
            go_ret2
            exact ⟨_, rfl, HO1.out, by repeat (first | (with_reducible first | exact HB.out | apply below_alloc | apply pw_below_drewN | apply below_drew1) | exact HB.out)⟩
  · rw [if_neg c4] at H
    have c4b1 : (t != 0) = true := bne_iff_ne.mpr c4
    clear c4
    simp only [Option.some.injEq, Prod.mk.injEq] at H
    obtain ⟨rfl, rfl⟩ := H
    go_enter Tryd.func31, Tryd.ntmps31
    go_upto_region 2 with (first
      | ((with_reducible refine gate_dst (N := 3) rfl ?_); refine box_event ?hg (N := 3) ?hd (cs := #[.int .i64 wear, .int .i64 make]) (t := 44) ?hr ?_; (case hd => rfl); (case hg => rfl); (case hr => first | (go_simp; done) | (go_simp; rfl)); intro g3 hg wg3 hbox hb; have m0_ := Aside0.mk (by rw [hg]; exact below_size (by repeat (first | (with_reducible first | exact HB.out | apply below_alloc | apply pw_below_drewN | apply below_drew1) | exact HB.out)) : w.heap.size ≤ g3); have m1_ := Aside0.mk (below_step (by repeat (first | (with_reducible first | exact HB.out | apply below_alloc | apply pw_below_drewN | apply below_drew1) | exact HB.out)) hb); clear HB ; have HB := m1_; have GEg3 := m0_; have B3 := Aside0.mk hbox; clear hg hbox hb)
      | ((with_reducible refine gate_callee (f := 80) rfl ?_); refine goesL_ (some 12) rfl rfl Tryd.func80 (by kernel_rfl) rfl #[.slice A0 l0.length c0] rfl (by (try simp only [List.map_toArray, List.map_cons, List.map_nil]); first | done | rfl | (simp only [List.length_drop, List.length_take]; rfl)) ?_; (with_reducible refine (gauge_virtual.calls k _ _ l0 sz t _ ?side1 ?side2 A3.out (by exact sig_below HS.out (by repeat (first | (with_reducible first | exact HB.out | apply below_alloc | apply pw_below_drewN | apply below_drew1) | exact HB.out)))).mono ?_); (case side1 => repeat (first | exact (Kd.C_below HR0.out HB.out) | (with_reducible refine Kd.C_alloc ?_ _) | (with_reducible refine Kd.C_drewN ?_ _) | (with_reducible refine Kd.C_drew ?_))); (case side2 => exact HC0.out); rintro e w6 ⟨v114, rfl, ho0, hb⟩; refine ⟨_, rfl, ?_⟩; have o0_ := Aside0.mk (blk_below B3.out hb); have n0_ := Aside0.mk (Kd.R_lower ho0 (below_size (by repeat (first | (with_reducible first | exact HB.out | apply below_alloc | apply pw_below_drewN | apply below_drew1) | exact HB.out)))); have n1_ := Aside0.mk (below_step (by repeat (first | (with_reducible first | exact HB.out | apply below_alloc | apply pw_below_drewN | apply below_drew1) | exact HB.out)) hb); clear HB B3; have HO := n0_; have HB := n1_; have B3 := o0_; clear n0_ n1_ hb ho0; obtain ⟨Ao, co, eo⟩ := Kd.R_slice HO.out; subst eo)
      | ((with_reducible refine gate_dst (N := 6) rfl ?_); refine box_event ?hg (N := 6) ?hd (cs := #[.slice none 0 0]) (t := 58) ?hr ?_; (case hd => rfl); (case hg => rfl); (case hr => first | (go_simp; done) | (go_simp; rfl)); intro g6 hg wg6 hbox hb; have m0_ := Aside0.mk (by rw [hg]; exact below_size (by repeat (first | (with_reducible first | exact HB.out | apply below_alloc | apply pw_below_drewN | apply below_drew1) | exact HB.out)) : w.heap.size ≤ g6); have m1_ := Aside0.mk (below_step (by repeat (first | (with_reducible first | exact HB.out | apply below_alloc | apply pw_below_drewN | apply below_drew1) | exact HB.out)) hb); have o0_ := Aside0.mk (blk_below B3.out hb); have q0_ := Aside0.mk (by rw [hg]; exact Nat.ne_of_gt (blk_lt B3.out) : g6 ≠ _); have h_ := Aside0.mk (Kd.R_below (Kd.R_elderB (by (with_reducible repeat (first | apply Kd.R_alloc | apply Kd.R_drewN | apply Kd.R_drew)); exact HO.out) g6 (Nat.le_of_eq hg.symm)) hb); clear HB B3 HO; have HB := m1_; have GEg6 := m0_; have B3 := o0_; have NE63 := q0_; have HO := h_; have B6 := Aside0.mk hbox; clear hg hbox hb; have f0 : wg6.cell? ⟨g6, 0, none⟩ = some (.slice none 0 0) := (blk_cell B6.out 0).trans rfl; have f1 := blk_frozen B6.out 0))
    have HB7 := below_set HB.out (j := 0) (v := (.slice Ao sz.length co)) GEg6.out
    have B37 := blk_far B3.out (p := ⟨g6, 0, none⟩) NE63.out.symm (.slice Ao sz.length co)
    have B67 := blk_put B6.out 0 (.slice Ao sz.length co) rfl
    have HO7 := Kd.R_mono (Kd.R_far (p := ⟨g6, 0, none⟩) HO.out (fun _ hk => hk.2) (.slice Ao sz.length co)) (ok' := fun _ => True) (fun _ _ => trivial)
    generalize wg6.setCell ⟨g6, 0, none⟩ (.slice Ao sz.length co) = w7 at HB7 B37 B67 HO7 ⊢
    clear HB B3 B6 HO f0 f1 NE63
    have HB := Aside0.mk HB7
    have B3 := Aside0.mk B37
    have B6 := Aside0.mk B67
    have HO := Aside0.mk HO7
    have m0 : w7.cell? ⟨g3, 0, none⟩ = some (.int .i64 wear) := (blk_cell B3.out 0).trans rfl
    have m1 : w7.cell? ⟨g3, 1, none⟩ = some (.int .i64 make) := (blk_cell B3.out 1).trans rfl
    clear HB7 B37 B67 HO7
    go_wp2
    go_ret2
    exact ⟨_, by first | rfl | (simp [errW_none, errW_some] <;> rfl) | (simp [*, errW_none, errW_some] <;> rfl), by first | exact Kd.R_nil _ _ _ _ _, by repeat (first | (with_reducible first | exact HB.out | apply below_alloc | apply pw_below_drewN | apply below_drew1) | exact HB.out)⟩
end Go.Proofs.YtjemaonejkepcaaDoor.G
namespace Go.Proofs.YtjemaonejkepcaaDoor.G
open Go.Proofs.YtjemaonejkepcaaDoor.B
open Go.RowKit Go.Proofs.YtjemaonejkepcaaDoorW.PrintWords Go.Proofs.YtjemaonejkepcaaDoorW.PrintLast Go.Proofs.YtjemaonejkepcaaDoorW.PrintMore
attribute [local go_sem] max2_int min2_int max_two min_two max_three min_three max_four min_four   -- for this text's walks alone
set_option linter.unusedVariables false
set_option linter.unusedSimpArgs false
theorem eqA25 (d : Nat) (w : World) (x0 y0 : Int) (x1 y1 : Int) :
    (Op.equalIn (d + 2) 25 (.agg #[.int .i64 x0, .int .i64 x1]) (.agg #[.int .i64 y0, .int .i64 y1])).run Tryd.prog w = .ok (x0 == y0 && (x1 == y1)) w := by
  refine eqA_of Tryd.underlying25 (by kernel_rfl) ?_
  refine eqf_cons (by rfl) (by go_simp; rfl) (by go_simp; rfl) (by go_simp) ?_
  exact eqf_last (by rfl) (by go_simp; rfl) (by go_simp; rfl) (by go_simp)
end Go.Proofs.YtjemaonejkepcaaDoor.G
namespace Go.Proofs.YtjemaonejkepcaaDoor.G
open Go.Proofs.YtjemaonejkepcaaDoor.B
open Go.RowKit Go.Proofs.YtjemaonejkepcaaDoorW.PrintWords Go.Proofs.YtjemaonejkepcaaDoorW.PrintLast Go.Proofs.YtjemaonejkepcaaDoorW.PrintMore
attribute [local go_sem] max2_int min2_int max_two min_two max_three min_three max_four min_four   -- for this text's walks alone
set_option linter.unusedVariables false
set_option linter.unusedSimpArgs false
theorem eqA23 (d : Nat) (w : World) (x0 y0 : Int) (x1 y1 : Int) :
    (Op.equalIn (d + 2) 23 (.agg #[.int .i64 x0, .int .i64 x1]) (.agg #[.int .i64 y0, .int .i64 y1])).run Tryd.prog w = .ok (x0 == y0 && (x1 == y1)) w := by
  refine eqA_of Tryd.underlying23 (by kernel_rfl) ?_
  refine eqf_cons (by rfl) (by go_simp; rfl) (by go_simp; rfl) (by go_simp) ?_
  exact eqf_last (by rfl) (by go_simp; rfl) (by go_simp; rfl) (by go_simp)
end Go.Proofs.YtjemaonejkepcaaDoor.G
