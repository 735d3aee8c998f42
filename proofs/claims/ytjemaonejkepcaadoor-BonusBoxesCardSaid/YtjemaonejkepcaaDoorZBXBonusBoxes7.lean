/- Texts of the law BonusBoxes, laid together by a program of this session; what is not reached is cut. In it: words that the kit's print.sh printed, contracts of Go functions printed over the kit's printer, our own laws. Not trusted: Lean checks them. -/
import Derived.Test.YtjemaonejkepcaaDoorZBXBonusBoxes6
import Derived.ProofKit
import Derived.LaidMore
import Derived.OpenShut
import Derived.Stop.Joined
namespace Go.Proofs.YtjemaonejkepcaaDoor
open Go.ChangeShapes Go.WideShapes Go.ChangeAt Go.RowKit
set_option maxRecDepth 100000
theorem own : ownKnob Tryd.prog.godebug = none := by kernel_rfl
theorem laidOut : laidOutB Tryd.prog = true := by kernel_rfl
theorem gSigns : Tryd.prog.globalNamed "metrolab/bonus.signs" = some 0 := by kernel_rfl
theorem tSigns : (Tryd.prog.globals[0]?).map (·.type) = some 145 := by kernel_rfl
theorem cs3 : Tryd.prog.cellsOf 3 = 1 := by kernel_rfl
theorem cs4 : Tryd.prog.cellsOf 4 = 1 := by kernel_rfl
theorem cs23 : Tryd.prog.cellsOf 23 = 2 := by kernel_rfl
theorem cs25 : Tryd.prog.cellsOf 25 = 2 := by kernel_rfl
theorem cs27 : Tryd.prog.cellsOf 27 = 7 := by kernel_rfl
theorem cs68 : Tryd.prog.cellsOf 68 = 3 := by kernel_rfl
theorem cs144 : Tryd.prog.cellsOf 144 = 3 := by kernel_rfl
theorem cs145 : Tryd.prog.cellsOf 145 = 6 := by kernel_rfl
abbrev laidS : List (String × DataW Unit) := [("metrolab/bonus.signs", Rows.laid_metrolab_bonus_signs)]
/-- The door's own heap meets the premise. -/
theorem door_met (os : Os) (args : Array Value) : laidMetH Tryd.prog laidS ((World.doorLaid Tryd.prog 400 os).forCall (fun _ _ => 0) ⟨#[], args, []⟩).memory :=
  laidMetH_of_parts3 (fuel := 8) (laidMet_of_run' 8 (by kernel_rfl) (by kernel_rfl)) (by kernel_rfl) (by kernel_rfl)
section
variable {H : Type} {enc : TypeId × Value → H} {w : World} {base : Nat} {spare : Nat → Bool} {held : Bool}
theorem one_int {fuel : Nat} {c : Value} {x : DataW H × List MemPlace} {t : TypeId} {k : IntKind} (ht : Tryd.prog.underlying t = some (.int k)) (h : DataW.trod enc Tryd.prog w base spare held fuel t [c] = some x) : ∃ n, c = .int k n ∧ x = (.lit (.int k n), []) ∧ (Lit.int k n).wf = true := by
  obtain ⟨n, e, hx, hw⟩ := DataW.trod_int ht h
  simp only [List.cons.injEq, and_true] at e
  exact ⟨n, e, hx, hw⟩
theorem one_bool {fuel : Nat} {c : Value} {x : DataW H × List MemPlace} (h : DataW.trod enc Tryd.prog w base spare held fuel 4 [c] = some x) : ∃ b, c = .bool b ∧ x = (.lit (.bool b), []) := by
  obtain ⟨n, e, hx⟩ := DataW.trod_bool Tryd.underlying4 h
  simp only [List.cons.injEq, and_true] at e
  exact ⟨n, e, hx⟩
theorem signs_of_laid {W : World} (h : laidMetH Tryd.prog laidS W) : SignsAt W := by
  rw [MakeChecks.laidMetH_plain _ _ _ (by kernel_rfl)] at h
  obtain ⟨ps, ⟨g0, t0, ls0, f0, p0, q0, hg0, ht0, hv0, hd0, _, _⟩, _, _⟩ := h
  obtain rfl := Option.some.inj (gSigns.symm.trans hg0)
  obtain rfl := Option.some.inj (tSigns.symm.trans ht0)
  obtain ⟨xs, m1, rfl, hx1, hlen, hn2, hel⟩ := DataW.trod_array Tryd.underlying145 hd0
  have e0 := hel 0 (by decide)
  have e1 := hel 1 (by decide)
  simp only [cs144] at e0 e1
  rw [cs145] at hlen
  simp only [Prod.mk.injEq] at hx1
  have hcell : ∀ i, W.cell? ⟨0, i, none⟩ = ls0[i]? := World.var?_cell hg0 hv0
  obtain ⟨l⟩ := ls0
  match l, hlen, xs, hn2, hx1, e0, e1 with
  | [c0, c1, c2, c3, c4, c5], _, [x0, x1], _, hx1, e0, e1 =>
    obtain ⟨ys, m2, rfl, hy, _, hny, hey⟩ := DataW.trod_array Tryd.underlying144 (show DataW.trod _ Tryd.prog W 0 _ false m1 144 [c0, c1, c2] = some x0 from e0)
    obtain ⟨zs, m3, hm3, hz, _, hnz, hez⟩ := DataW.trod_array Tryd.underlying144 (show DataW.trod _ Tryd.prog W 0 _ false (m2 + 1) 144 [c3, c4, c5] = some x1 from e1)
    simp only [cs3] at hey hez
    match ys, hny, zs, hnz with
    | [y0, y1, y2], _, [z0, z1, z2], _ =>
      obtain ⟨n0, rfl, h0, _⟩ := one_int Tryd.underlying3 (show DataW.trod _ Tryd.prog W 0 _ false m2 3 [c0] = some y0 from hey 0 (by decide))
      obtain ⟨n1, rfl, h1, _⟩ := one_int Tryd.underlying3 (show DataW.trod _ Tryd.prog W 0 _ false m2 3 [c1] = some y1 from hey 1 (by decide))
      obtain ⟨n2, rfl, h2, _⟩ := one_int Tryd.underlying3 (show DataW.trod _ Tryd.prog W 0 _ false m2 3 [c2] = some y2 from hey 2 (by decide))
      obtain ⟨n3, rfl, h3, _⟩ := one_int Tryd.underlying3 (show DataW.trod _ Tryd.prog W 0 _ false m3 3 [c3] = some z0 from hez 0 (by decide))
      obtain ⟨n4, rfl, h4, _⟩ := one_int Tryd.underlying3 (show DataW.trod _ Tryd.prog W 0 _ false m3 3 [c4] = some z1 from hez 1 (by decide))
      obtain ⟨n5, rfl, h5, _⟩ := one_int Tryd.underlying3 (show DataW.trod _ Tryd.prog W 0 _ false m3 3 [c5] = some z2 from hez 2 (by decide))
      subst h0 h1 h2 h3 h4 h5 hy hz
      have hd := hx1.1
      simp [Rows.laid_metrolab_bonus_signs] at hd
      obtain ⟨⟨rfl, rfl, rfl⟩, rfl, rfl, rfl⟩ := hd
      exact ⟨hcell 0, hcell 1, hcell 2, hcell 3, hcell 4, hcell 5⟩
/-- A target, by value. -/
theorem target_cells {fuel : Nat} {cs : List Value} {x : DataW H × List MemPlace} (h : DataW.trod enc Tryd.prog w base spare held fuel 27 cs = some x) :
    ∃ (x y lo hi tol mat : Int) (pin : Bool), cs = [.int .i64 x, .int .i64 y, .int .i64 lo, .int .i64 hi, .int .i64 tol, .int .i64 mat, .bool pin] := by
  obtain ⟨xs, n, _, _, hlen, hn, hg⟩ := DataW.trod_struct Tryd.underlying27 h
  rw [cs27] at hlen
  have g0 : DataW.trod enc Tryd.prog w base spare held n 23 (List.take (Tryd.prog.cellsOf 23) (List.drop 0 cs)) = xs[0]? := hg 0 _ rfl
  have g1 : DataW.trod enc Tryd.prog w base spare held n 25 (List.take (Tryd.prog.cellsOf 25) (List.drop 2 cs)) = xs[1]? := hg 1 _ rfl
  have g2 : DataW.trod enc Tryd.prog w base spare held n 3 (List.take (Tryd.prog.cellsOf 3) (List.drop 4 cs)) = xs[2]? := hg 2 _ rfl
  have g3 : DataW.trod enc Tryd.prog w base spare held n 3 (List.take (Tryd.prog.cellsOf 3) (List.drop 5 cs)) = xs[3]? := hg 3 _ rfl
  have g4 : DataW.trod enc Tryd.prog w base spare held n 4 (List.take (Tryd.prog.cellsOf 4) (List.drop 6 cs)) = xs[4]? := hg 4 _ rfl
  simp only [cs3, cs4, cs23, cs25] at g0 g1 g2 g3 g4
  match cs, hlen, xs, hn, g0, g1, g2, g3, g4 with
  | [c0, c1, c2, c3, c4, c5, c6], _, [x0, x1, x2, x3, x4], _, g0, g1, g2, g3, g4 =>
    obtain ⟨ys, m, _, _, _, hny, hy⟩ := DataW.trod_struct Tryd.underlying23 (show DataW.trod enc Tryd.prog w base spare held n 23 [c0, c1] = some x0 from g0)
    obtain ⟨zs, k, _, _, _, hnz, hz⟩ := DataW.trod_struct Tryd.underlying25 (show DataW.trod enc Tryd.prog w base spare held n 25 [c2, c3] = some x1 from g1)
    have a0 : DataW.trod enc Tryd.prog w base spare held m 3 (List.take (Tryd.prog.cellsOf 3) (List.drop 0 [c0, c1])) = ys[0]? := hy 0 _ rfl
    have a1 : DataW.trod enc Tryd.prog w base spare held m 3 (List.take (Tryd.prog.cellsOf 3) (List.drop 1 [c0, c1])) = ys[1]? := hy 1 _ rfl
    have b0 : DataW.trod enc Tryd.prog w base spare held k 3 (List.take (Tryd.prog.cellsOf 3) (List.drop 0 [c2, c3])) = zs[0]? := hz 0 _ rfl
    have b1 : DataW.trod enc Tryd.prog w base spare held k 3 (List.take (Tryd.prog.cellsOf 3) (List.drop 1 [c2, c3])) = zs[1]? := hz 1 _ rfl
    simp only [cs3] at a0 a1 b0 b1
    match ys, hny, zs, hnz, a0, a1, b0, b1 with
    | [y0, y1], _, [z0, z1], _, a0, a1, b0, b1 =>
      obtain ⟨n0, rfl, _⟩ := one_int Tryd.underlying3 (show DataW.trod enc Tryd.prog w base spare held m 3 [c0] = some y0 from a0)
      obtain ⟨n1, rfl, _⟩ := one_int Tryd.underlying3 (show DataW.trod enc Tryd.prog w base spare held m 3 [c1] = some y1 from a1)
      obtain ⟨n2, rfl, _⟩ := one_int Tryd.underlying3 (show DataW.trod enc Tryd.prog w base spare held k 3 [c2] = some z0 from b0)
      obtain ⟨n3, rfl, _⟩ := one_int Tryd.underlying3 (show DataW.trod enc Tryd.prog w base spare held k 3 [c3] = some z1 from b1)
      obtain ⟨n4, rfl, _⟩ := one_int Tryd.underlying3 (show DataW.trod enc Tryd.prog w base spare held n 3 [c4] = some x2 from g2)
      obtain ⟨n5, rfl, _⟩ := one_int Tryd.underlying3 (show DataW.trod enc Tryd.prog w base spare held n 3 [c5] = some x3 from g3)
      obtain ⟨n6, rfl, _⟩ := one_bool (show DataW.trod enc Tryd.prog w base spare held n 4 [c6] = some x4 from g4)
      exact ⟨n0, n1, n2, n3, n4, n5, n6, rfl⟩
/-- A circle, by value. -/
theorem circle_cells {fuel : Nat} {cs : List Value} {x : DataW H × List MemPlace} (h : DataW.trod enc Tryd.prog w base spare held fuel 68 cs = some x) :
    ∃ (x y s : Int), cs = [.int .i64 x, .int .i64 y, .int .i64 s] := by
  obtain ⟨xs, n, _, _, hlen, hn, hg⟩ := DataW.trod_struct Tryd.underlying68 h
  rw [cs68] at hlen
  have g0 : DataW.trod enc Tryd.prog w base spare held n 23 (List.take (Tryd.prog.cellsOf 23) (List.drop 0 cs)) = xs[0]? := hg 0 _ rfl
  have g1 : DataW.trod enc Tryd.prog w base spare held n 3 (List.take (Tryd.prog.cellsOf 3) (List.drop 2 cs)) = xs[1]? := hg 1 _ rfl
  simp only [cs3, cs23] at g0 g1
  match cs, hlen, xs, hn, g0, g1 with
  | [c0, c1, c2], _, [x0, x1], _, g0, g1 =>
    obtain ⟨ys, m, _, _, _, hny, hy⟩ := DataW.trod_struct Tryd.underlying23 (show DataW.trod enc Tryd.prog w base spare held n 23 [c0, c1] = some x0 from g0)
    have a0 : DataW.trod enc Tryd.prog w base spare held m 3 (List.take (Tryd.prog.cellsOf 3) (List.drop 0 [c0, c1])) = ys[0]? := hy 0 _ rfl
    have a1 : DataW.trod enc Tryd.prog w base spare held m 3 (List.take (Tryd.prog.cellsOf 3) (List.drop 1 [c0, c1])) = ys[1]? := hy 1 _ rfl
    simp only [cs3] at a0 a1
    match ys, hny, a0, a1 with
    | [y0, y1], _, a0, a1 =>
      obtain ⟨n0, rfl, _⟩ := one_int Tryd.underlying3 (show DataW.trod enc Tryd.prog w base spare held m 3 [c0] = some y0 from a0)
      obtain ⟨n1, rfl, _⟩ := one_int Tryd.underlying3 (show DataW.trod enc Tryd.prog w base spare held m 3 [c1] = some y1 from a1)
      obtain ⟨n2, rfl, _⟩ := one_int Tryd.underlying3 (show DataW.trod enc Tryd.prog w base spare held n 3 [c2] = some x1 from g1)
      exact ⟨n0, n1, n2, rfl⟩
theorem open_target {r : Reach} {b0 : Nat} {v : Value} {d : DataW H} {p : List MemPlace} (hv : Value.okWide Tryd.prog w r b0 27 v) (h : DataW.Trod enc Tryd.prog w base spare held 27 v d p) :
    ∃ (x y lo hi tol mat : Int) (pin : Bool), v = .agg #[.int .i64 x, .int .i64 y, .int .i64 lo, .int .i64 hi, .int .i64 tol, .int .i64 mat, .bool pin] := by
  obtain ⟨cs, rfl, hsz⟩ := okWide_struct Tryd.underlying27 hv
  obtain ⟨fuel, hf⟩ := h
  obtain ⟨x, y, lo, hi, tol, mat, pin, e⟩ := target_cells (show DataW.trod enc Tryd.prog w base spare held fuel 27 cs.toList = some (d, p) from hf)
  exact ⟨x, y, lo, hi, tol, mat, pin, by obtain ⟨l⟩ := cs; simp at e; rw [e]⟩
theorem open_circle {r : Reach} {b0 : Nat} {v : Value} {d : DataW H} {p : List MemPlace} (hv : Value.okWide Tryd.prog w r b0 68 v) (h : DataW.Trod enc Tryd.prog w base spare held 68 v d p) :
    ∃ (x y s : Int), v = .agg #[.int .i64 x, .int .i64 y, .int .i64 s] := by
  obtain ⟨cs, rfl, hsz⟩ := okWide_struct Tryd.underlying68 hv
  obtain ⟨fuel, hf⟩ := h
  obtain ⟨x, y, s, e⟩ := circle_cells (show DataW.trod enc Tryd.prog w base spare held fuel 68 cs.toList = some (d, p) from hf)
  exact ⟨x, y, s, by obtain ⟨l⟩ := cs; simp at e; rw [e]⟩
end
end Go.Proofs.YtjemaonejkepcaaDoor
