/- More arguments of the laws, opened: a pair of small integers, a making, slices of structs. -/
import Derived.Test.YtjemaonejkepcaaDoorOpen
import Derived.Deep.Slices
namespace Go.Proofs.YtjemaonejkepcaaDoor
open Go.ChangeShapes Go.WideShapes Go.ChangeAt Go.RowKit Go.Deep Go.Proofs.YtjemaonejkepcaaDoorW.PrintWords
set_option maxRecDepth 100000

theorem cs74 : Tryd.prog.cellsOf 74 = 1 := by kernel_rfl
theorem cs75 : Tryd.prog.cellsOf 75 = 2 := by kernel_rfl
theorem cs44 : Tryd.prog.cellsOf 44 = 2 := by kernel_rfl
section
variable {H : Type} {enc : TypeId × Value → H} {w : World} {base : Nat} {spare : Nat → Bool} {held : Bool}

theorem okWide_arr {r : Reach} {b0 t : Nat} {n : Nat} {e : TypeId} {v : Value} (ht : Tryd.prog.underlying t = some (.array n e)) (h : Value.okWide Tryd.prog w r b0 t v) : ∃ cs, v = .agg cs ∧ cs.size = Tryd.prog.cellsOf t := by
  simp only [Value.okWide, ht] at h
  obtain ⟨cs, h1, h2, _⟩ := h
  exact ⟨cs, h1, h2⟩

theorem open_pair {r : Reach} {b0 : Nat} {v : Value} {d : DataW H} {p : List MemPlace} (hv : Value.okWide Tryd.prog w r b0 75 v) (h : DataW.Trod enc Tryd.prog w base spare held 75 v d p) :
    ∃ (x y : Int), v = .agg #[.int .i16 x, .int .i16 y] ∧ (Lit.int .i16 x).wf = true ∧ (Lit.int .i16 y).wf = true := by
  obtain ⟨cs, rfl, hsz⟩ := okWide_arr Tryd.underlying75 hv
  obtain ⟨fuel, hf⟩ := h
  obtain ⟨xs, m, _, _, hlen, hn, hel⟩ := DataW.trod_array Tryd.underlying75 (show DataW.trod enc Tryd.prog w base spare held fuel 75 cs.toList = some (d, p) from hf)
  have e0 := hel 0 (by decide)
  have e1 := hel 1 (by decide)
  simp only [cs74] at e0 e1
  rw [cs75] at hlen
  obtain ⟨l⟩ := cs
  match l, hlen, xs, hn, e0, e1 with
  | [c0, c1], _, [x0, x1], _, e0, e1 =>
    obtain ⟨a, rfl, _, wa⟩ := one_int Tryd.underlying74 (show DataW.trod enc Tryd.prog w base spare held m 74 [c0] = some x0 from e0)
    obtain ⟨b, rfl, _, wb⟩ := one_int Tryd.underlying74 (show DataW.trod enc Tryd.prog w base spare held m 74 [c1] = some x1 from e1)
    exact ⟨a, b, rfl, wa, wb⟩

theorem open_making {r : Reach} {b0 : Nat} {v : Value} {d : DataW H} {p : List MemPlace} (hv : Value.okWide Tryd.prog w r b0 44 v) (h : DataW.Trod enc Tryd.prog w base spare held 44 v d p) :
    ∃ (x y : Int), v = .agg #[.int .i64 x, .int .i64 y] ∧ (Lit.int .i64 x).wf = true ∧ (Lit.int .i64 y).wf = true := by
  obtain ⟨cs, rfl, hsz⟩ := okWide_struct Tryd.underlying44 hv
  obtain ⟨fuel, hf⟩ := h
  obtain ⟨xs, n, _, _, hlen, hn, hg⟩ := DataW.trod_struct Tryd.underlying44 (show DataW.trod enc Tryd.prog w base spare held fuel 44 cs.toList = some (d, p) from hf)
  rw [cs44] at hlen
  have g0 : DataW.trod enc Tryd.prog w base spare held n 3 (List.take (Tryd.prog.cellsOf 3) (List.drop 0 cs.toList)) = xs[0]? := hg 0 _ rfl
  have g1 : DataW.trod enc Tryd.prog w base spare held n 3 (List.take (Tryd.prog.cellsOf 3) (List.drop 1 cs.toList)) = xs[1]? := hg 1 _ rfl
  simp only [cs3] at g0 g1
  obtain ⟨l⟩ := cs
  match l, hlen, xs, hn, g0, g1 with
  | [c0, c1], _, [x0, x1], _, g0, g1 =>
    obtain ⟨a, rfl, _, wa⟩ := one_int Tryd.underlying3 (show DataW.trod enc Tryd.prog w base spare held n 3 [c0] = some x0 from g0)
    obtain ⟨b, rfl, _, wb⟩ := one_int Tryd.underlying3 (show DataW.trod enc Tryd.prog w base spare held n 3 [c1] = some x1 from g1)
    exact ⟨a, b, rfl, wa, wb⟩

/-- A slice of structs reads as a list. -/
theorem open_row {α : Type} (d0 : α) {R : α → List Value → Prop} {size : Nat} {t e : TypeId} (ht : Tryd.prog.underlying t = some (.slice e)) (hsz : Tryd.prog.cellsOf e = size)
    (one : ∀ (n : Nat) (cs : List Value) (x : DataW H × List MemPlace), DataW.trod enc Tryd.prog w base spare held n e cs = some x → ∃ q : α, R q cs)
    {r : Reach} {b0 : Nat} {v : Value} {d : DataW H} {p : List MemPlace} (hv : Value.okWide Tryd.prog w r b0 t v) (h : DataW.Trod enc Tryd.prog w base spare held t v d p) :
    ∃ (A : Option Addr) (c : Nat) (l : List α), v = .slice A l.length c ∧ ReadsRow R size w A l.length l ∧ l.length ≤ c := by
  obtain ⟨A, len, cap, rfl⟩ := okWide_slice ht hv
  obtain ⟨fuel, hf⟩ := h
  rcases Go.Deep.open_slice ht hf with ⟨hcs, _⟩ | ⟨a, len', cap', m, n, D, Pl, hcs, _, hl, hm, hmm, _, hi⟩
  · simp [Value.cells] at hcs
    obtain ⟨rfl, rfl, rfl⟩ := hcs
    exact ⟨none, 0, [], rfl, ⟨rfl, by simp, fun hn => by simp at hn⟩, by simp⟩
  · simp [Value.cells] at hcs
    obtain ⟨rfl, rfl, rfl⟩ := hcs
    rw [hsz] at hi
    have hlm : len ≤ m := by rw [hmm]; split <;> omega
    have hex : ∀ i, ∃ q : α, i < len → ∃ c, c.length = size ∧ R q c ∧ ∀ j u, c[j]? = some u → w.cell? (a.add (i * size + j)) = some u := by
      intro i
      by_cases hlt : i < len
      · obtain ⟨cs', hc, ht'⟩ := hi i (by omega)
        obtain ⟨_, hcl, hat⟩ := World.cells?_some hc
        obtain ⟨q, hq⟩ := one _ _ _ ht'
        refine ⟨q, fun _ => ⟨cs', hcl, hq, fun j u hu => ?_⟩⟩
        have hj : j < size := by have := (List.getElem?_eq_some_iff.1 hu).1; omega
        rw [← Go.Deep.add_add, hat j hj, hu]
      · exact ⟨d0, fun h => absurd h hlt⟩
    have hch : ∃ f : Nat → α, ∀ i, i < len → ∃ c, c.length = size ∧ R (f i) c ∧ ∀ j u, c[j]? = some u → w.cell? (a.add (i * size + j)) = some u :=
      ⟨fun i => Classical.choose (hex i), fun i => Classical.choose_spec (hex i)⟩
    obtain ⟨f, hf'⟩ := hch
    refine ⟨some a, cap, (List.range len).map f, by simp, ⟨rfl, ?_, fun _ => ⟨a, rfl, fun j q hj => ?_⟩⟩, by simp; exact hl⟩
    · unfold maxLen at hm; simp; omega
    · rw [List.getElem?_map] at hj
      rcases Nat.lt_or_ge j len with hjl | hjl
      · rw [List.getElem?_range hjl] at hj
        simp at hj; subst hj
        exact hf' j hjl
      · rw [List.getElem?_eq_none (by simpa using hjl)] at hj; simp at hj
end

end Go.Proofs.YtjemaonejkepcaaDoor
