/- The contract of bonus.of: the condition of a target whose material condition is known, read off the table of signs. -/
import Derived.Test.YtjemaonejkepcaaDoorRows
import Derived.WalkKit
import Derived.WalkSpells
import Derived.WalkLawsBesides
import Derived.RegionTactic
import Derived.BigQuiet
import Derived.Deep.QuietTactic
import Derived.Test.YtjemaonejkepcaaDoorWWords
namespace Go.Proofs.YtjemaonejkepcaaDoor
open Go.RowKit Go.Proofs.YtjemaonejkepcaaDoorW.PrintWords

def SignsAt (w : World) : Prop :=
  w.cell? ⟨0, 0, none⟩ = some (.int .i64 (-1)) ∧ w.cell? ⟨0, 1, none⟩ = some (.int .i64 (-1)) ∧ w.cell? ⟨0, 2, none⟩ = some (.int .i64 1) ∧
  w.cell? ⟨0, 3, none⟩ = some (.int .i64 1) ∧ w.cell? ⟨0, 4, none⟩ = some (.int .i64 1) ∧ w.cell? ⟨0, 5, none⟩ = some (.int .i64 (-1))

theorem sig_below {w w' : World} (h : SignsAt w) (hb : Below w.heap.size w w') : SignsAt w' :=
  ⟨pw_cell_below hb h.1, pw_cell_below hb h.2.1, pw_cell_below hb h.2.2.1, pw_cell_below hb h.2.2.2.1, pw_cell_below hb h.2.2.2.2.1, pw_cell_below hb h.2.2.2.2.2⟩

def sgn (m : Int) (pin : Bool) : Int := if pin = true then (if m = 2 then -1 else 1) else (if m = 2 then 1 else -1)

set_option maxHeartbeats 4000000 in
set_option maxRecDepth 100000 in
theorem of_pin (x y lo hi tol m : Int) (w : World) (hm : m = 0 ∨ m = 1 ∨ m = 2) (hS : SignsAt w) :
    Calls Tryd.prog 67 #[.agg #[.int .i64 x, .int .i64 y, .int .i64 lo, .int .i64 hi, .int .i64 tol, .int .i64 m, .bool true]] w fun e w' => e = .returned (.agg #[.int .i64 x, .int .i64 y, .int .i64 lo, .int .i64 hi, .int .i64 tol, .int .i64 m, .bool true, .int .i64 (sgn m true)]) ∧ Below w.heap.size w w' := by
  have hz : 0 < w.heap.size := World.block_lt_of_cell? w _ hS.1
  obtain ⟨h0, h1, h2, h3, h4, h5⟩ := hS
  have hu27 := Tryd.underlying27
  have hu113 := Tryd.underlying113
  rcases hm with rfl | rfl | rfl
  · clear h0 h1 h2 h4 h5
    have hc1 : ∀ o : Obj, (w.alloc o).cell? ⟨0, 3, none⟩ = w.cell? ⟨0, 3, none⟩ := fun o => World.cell?_alloc_lt w o _ hz
    have hc2 : ∀ o o' : Obj, ((w.alloc o).alloc o').cell? ⟨0, 3, none⟩ = w.cell? ⟨0, 3, none⟩ := fun o o' => (World.cell?_alloc_lt _ o' _ (by simp)).trans (hc1 o)
    go_enter Tryd.func67, Tryd.ntmps67
    go_wp2
    go_region
    go_wp2
    exact bodyPost_ret (v := .agg #[.int .i64 x, .int .i64 y, .int .i64 lo, .int .i64 hi, .int .i64 tol, .int .i64 0, .bool true, .int .i64 1]) (by simp [results, Tryd.results67, go_sem]) rfl ⟨by simp [sgn], below_drew (below_alloc (below_alloc (Below.refl _ _) _) _)⟩
  · clear h0 h1 h2 h3 h5
    have hc1 : ∀ o : Obj, (w.alloc o).cell? ⟨0, 4, none⟩ = w.cell? ⟨0, 4, none⟩ := fun o => World.cell?_alloc_lt w o _ hz
    have hc2 : ∀ o o' : Obj, ((w.alloc o).alloc o').cell? ⟨0, 4, none⟩ = w.cell? ⟨0, 4, none⟩ := fun o o' => (World.cell?_alloc_lt _ o' _ (by simp)).trans (hc1 o)
    go_enter Tryd.func67, Tryd.ntmps67
    go_wp2
    go_region
    go_wp2
    exact bodyPost_ret (v := .agg #[.int .i64 x, .int .i64 y, .int .i64 lo, .int .i64 hi, .int .i64 tol, .int .i64 1, .bool true, .int .i64 1]) (by simp [results, Tryd.results67, go_sem]) rfl ⟨by simp [sgn], below_drew (below_alloc (below_alloc (Below.refl _ _) _) _)⟩
  · clear h0 h1 h2 h3 h4
    have hc1 : ∀ o : Obj, (w.alloc o).cell? ⟨0, 5, none⟩ = w.cell? ⟨0, 5, none⟩ := fun o => World.cell?_alloc_lt w o _ hz
    have hc2 : ∀ o o' : Obj, ((w.alloc o).alloc o').cell? ⟨0, 5, none⟩ = w.cell? ⟨0, 5, none⟩ := fun o o' => (World.cell?_alloc_lt _ o' _ (by simp)).trans (hc1 o)
    go_enter Tryd.func67, Tryd.ntmps67
    go_wp2
    go_region
    go_wp2
    exact bodyPost_ret (v := .agg #[.int .i64 x, .int .i64 y, .int .i64 lo, .int .i64 hi, .int .i64 tol, .int .i64 2, .bool true, .int .i64 (-1)]) (by simp [results, Tryd.results67, go_sem]) rfl ⟨by simp [sgn], below_drew (below_alloc (below_alloc (Below.refl _ _) _) _)⟩

set_option maxHeartbeats 4000000 in
set_option maxRecDepth 100000 in
theorem of_hole (x y lo hi tol m : Int) (w : World) (hm : m = 0 ∨ m = 1 ∨ m = 2) (hS : SignsAt w) :
    Calls Tryd.prog 67 #[.agg #[.int .i64 x, .int .i64 y, .int .i64 lo, .int .i64 hi, .int .i64 tol, .int .i64 m, .bool false]] w fun e w' => e = .returned (.agg #[.int .i64 x, .int .i64 y, .int .i64 lo, .int .i64 hi, .int .i64 tol, .int .i64 m, .bool false, .int .i64 (sgn m false)]) ∧ Below w.heap.size w w' := by
  have hz : 0 < w.heap.size := World.block_lt_of_cell? w _ hS.1
  obtain ⟨h0, h1, h2, h3, h4, h5⟩ := hS
  have hu27 := Tryd.underlying27
  have hu113 := Tryd.underlying113
  rcases hm with rfl | rfl | rfl
  · clear h1 h2 h3 h4 h5
    have hc1 : ∀ o : Obj, (w.alloc o).cell? ⟨0, 0, none⟩ = w.cell? ⟨0, 0, none⟩ := fun o => World.cell?_alloc_lt w o _ hz
    have hc2 : ∀ o o' : Obj, ((w.alloc o).alloc o').cell? ⟨0, 0, none⟩ = w.cell? ⟨0, 0, none⟩ := fun o o' => (World.cell?_alloc_lt _ o' _ (by simp)).trans (hc1 o)
    go_enter Tryd.func67, Tryd.ntmps67
    go_wp2
    go_region
    go_wp2
    exact bodyPost_ret (v := .agg #[.int .i64 x, .int .i64 y, .int .i64 lo, .int .i64 hi, .int .i64 tol, .int .i64 0, .bool false, .int .i64 (-1)]) (by simp [results, Tryd.results67, go_sem]) rfl ⟨by simp [sgn], below_drew (below_alloc (below_alloc (Below.refl _ _) _) _)⟩
  · clear h0 h2 h3 h4 h5
    have hc1 : ∀ o : Obj, (w.alloc o).cell? ⟨0, 1, none⟩ = w.cell? ⟨0, 1, none⟩ := fun o => World.cell?_alloc_lt w o _ hz
    have hc2 : ∀ o o' : Obj, ((w.alloc o).alloc o').cell? ⟨0, 1, none⟩ = w.cell? ⟨0, 1, none⟩ := fun o o' => (World.cell?_alloc_lt _ o' _ (by simp)).trans (hc1 o)
    go_enter Tryd.func67, Tryd.ntmps67
    go_wp2
    go_region
    go_wp2
    exact bodyPost_ret (v := .agg #[.int .i64 x, .int .i64 y, .int .i64 lo, .int .i64 hi, .int .i64 tol, .int .i64 1, .bool false, .int .i64 (-1)]) (by simp [results, Tryd.results67, go_sem]) rfl ⟨by simp [sgn], below_drew (below_alloc (below_alloc (Below.refl _ _) _) _)⟩
  · clear h0 h1 h3 h4 h5
    have hc1 : ∀ o : Obj, (w.alloc o).cell? ⟨0, 2, none⟩ = w.cell? ⟨0, 2, none⟩ := fun o => World.cell?_alloc_lt w o _ hz
    have hc2 : ∀ o o' : Obj, ((w.alloc o).alloc o').cell? ⟨0, 2, none⟩ = w.cell? ⟨0, 2, none⟩ := fun o o' => (World.cell?_alloc_lt _ o' _ (by simp)).trans (hc1 o)
    go_enter Tryd.func67, Tryd.ntmps67
    go_wp2
    go_region
    go_wp2
    exact bodyPost_ret (v := .agg #[.int .i64 x, .int .i64 y, .int .i64 lo, .int .i64 hi, .int .i64 tol, .int .i64 2, .bool false, .int .i64 1]) (by simp [results, Tryd.results67, go_sem]) rfl ⟨by simp [sgn], below_drew (below_alloc (below_alloc (Below.refl _ _) _) _)⟩

theorem of_any (x y lo hi tol m : Int) (b : Bool) (w : World) (h0 : 0 ≤ m) (h2 : m ≤ 2) (hS : SignsAt w) :
    Calls Tryd.prog 67 #[.agg #[.int .i64 x, .int .i64 y, .int .i64 lo, .int .i64 hi, .int .i64 tol, .int .i64 m, .bool b]] w fun e w' => e = .returned (.agg #[.int .i64 x, .int .i64 y, .int .i64 lo, .int .i64 hi, .int .i64 tol, .int .i64 m, .bool b, .int .i64 (sgn m b)]) ∧ Below w.heap.size w w' := by
  have hm : m = 0 ∨ m = 1 ∨ m = 2 := by omega
  cases b
  · exact of_hole x y lo hi tol m w hm hS
  · exact of_pin x y lo hi tol m w hm hS

end Go.Proofs.YtjemaonejkepcaaDoor
