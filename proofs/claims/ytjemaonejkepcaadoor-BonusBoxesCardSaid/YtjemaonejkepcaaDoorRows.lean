/-
  NARROWER THAN 'FOR EVERY INPUT', by the rows' own cells (each row's printed sentence says how): BonusChecks: laid · BonusSizes: laid · BonusMeets: laid · GaugeLasts: laid · GaugeKeeps: laid · BonusGauges: laid · BonusGrows: laid · BonusBoxes: laid · BonusKeeps: laid · BonusPlates: laid · GaugeGuards: laid · GaugeLoses: laid · GaugeWears: laid · GaugeNarrows: laid · GaugeDesigns: laid.
  DERIVED. THE GIVEN ROWS OF THIS SEAT. 15 by the template 'for every input the law returns true; each argument reads behind the call as it read before'; 0 by the template 'total and deterministic' (their statements: YtjemaonejkepcaaDoorTotals.lean).
  GIVEN WITH THE SEED: the statements are not yours to turn. If you find one false, say at which input.
  Laid BY PROGRAM, IN A SANDBOX (cutbox-rows.mjs): the forced cells as the released guide's own fill.sh prints them over the translation 062a33d3bd30d99b… (all of the seat's roots in one cut). By AI agents, Wed Nov 11 2026. No macro, syntax, notation, axiom, sorry.
-/
import Derived.Test.YtjemaonejkepcaaDoorChecked
import GoSem.Claim
import GoSem.ClaimJoined
import GoSem.ClaimMapViews
import Derived.JoinedTies
import Derived.KernelRfl
namespace Go.Proofs.YtjemaonejkepcaaDoor
/- THE CELL 'sum', in the pinned program and in every row, IS THE sha256 OF THE DUMP (.gsa) THAT YtjemaonejkepcaaDoorProg.lean LOADS. Nothing in Lean hashes anything: it is a label: what it is worth is what the hold of that sum in a sandbox is worth. -/
noncomputable def Tryd.pinned : Pinned := { name := "ytjemaonejkepcaadoor", sum := "062a33d3bd30d99bfd6922fa1d5551dbd57e7e09c30a4980d44194de1c9ebea4", checked := Tryd.checked }
namespace Rows
def none {H : Type} : Left H := { results := [], args := [] }

/- WHAT THE LISTED PACKAGE-LEVEL VARIABLES READ AS WHEN THE CALL BEGINS. Each datum BY PROGRAM (the guide's laid-datum.mjs) off the statement by which the dump's own 'gosem.cut.vars' lays the variable. In a bare row this is a premise. The card (YtjemaonejkepcaaDoorCards.lean) ties it to the program's text. -/
def laid_metrolab_bonus_signs {H : Type} : DataW H := .agg [.agg [.lit (.int .i64 (-1)), .lit (.int .i64 (-1)), .lit (.int .i64 1)], .agg [.lit (.int .i64 1), .lit (.int .i64 1), .lit (.int .i64 (-1))]]

/-- 'metrolablaw44.BonusChecks': WHATEVER THE INPUT: true; the input reads as it did. -/
def bonusChecksSpec : ChangeSpec := { name := "bonusChecks", fn := fun _ => fun
  | [d] => { results := [.lit (.bool true)], args := [d] }
  | _ => none }
def bonusChecksRow : OpenClaim := { program := "ytjemaonejkepcaadoor", sum := "062a33d3bd30d99bfd6922fa1d5551dbd57e7e09c30a4980d44194de1c9ebea4", func := "metrolab/metrolablaw44.BonusChecks", spec := "bonusChecks", named := ["metrolab/bonus.signs"], apart := false, laid := [("metrolab/bonus.signs", laid_metrolab_bonus_signs)] }
def BonusChecksSaid : Prop := bonusChecksRow.holds Tryd.pinned (OpenSpec.ofChange bonusChecksSpec)

/-- ITS FALSE NEIGHBOUR: 'it returns false'. Refute it at one input. -/
def bonusChecksWrong : ChangeSpec := { name := "bonusChecks", fn := fun _ => fun
  | [d] => { results := [.lit (.bool false)], args := [d] }
  | _ => none }
def BonusChecksWrongFalsely : Prop := bonusChecksRow.holds Tryd.pinned (OpenSpec.ofChange bonusChecksWrong)

/-- 'metrolablaw44.BonusSizes': WHATEVER THE INPUT: true; the input reads as it did. -/
def bonusSizesSpec : ChangeSpec := { name := "bonusSizes", fn := fun _ => fun
  | [d1, d2] => { results := [.lit (.bool true)], args := [d1, d2] }
  | _ => none }
def bonusSizesRow : OpenClaim := { program := "ytjemaonejkepcaadoor", sum := "062a33d3bd30d99bfd6922fa1d5551dbd57e7e09c30a4980d44194de1c9ebea4", func := "metrolab/metrolablaw44.BonusSizes", spec := "bonusSizes", named := ["metrolab/bonus.signs"], apart := false, laid := [("metrolab/bonus.signs", laid_metrolab_bonus_signs)] }
def BonusSizesSaid : Prop := bonusSizesRow.holds Tryd.pinned (OpenSpec.ofChange bonusSizesSpec)

/-- ITS FALSE NEIGHBOUR: 'it returns false'. Refute it at one input. -/
def bonusSizesWrong : ChangeSpec := { name := "bonusSizes", fn := fun _ => fun
  | [d1, d2] => { results := [.lit (.bool false)], args := [d1, d2] }
  | _ => none }
def BonusSizesWrongFalsely : Prop := bonusSizesRow.holds Tryd.pinned (OpenSpec.ofChange bonusSizesWrong)

/-- 'metrolablaw44.BonusMeets': WHATEVER THE INPUT: true; the input reads as it did. -/
def bonusMeetsSpec : ChangeSpec := { name := "bonusMeets", fn := fun _ => fun
  | [d1, d2] => { results := [.lit (.bool true)], args := [d1, d2] }
  | _ => none }
def bonusMeetsRow : OpenClaim := { program := "ytjemaonejkepcaadoor", sum := "062a33d3bd30d99bfd6922fa1d5551dbd57e7e09c30a4980d44194de1c9ebea4", func := "metrolab/metrolablaw44.BonusMeets", spec := "bonusMeets", named := ["metrolab/bonus.signs"], apart := false, laid := [("metrolab/bonus.signs", laid_metrolab_bonus_signs)] }
def BonusMeetsSaid : Prop := bonusMeetsRow.holds Tryd.pinned (OpenSpec.ofChange bonusMeetsSpec)

/-- ITS FALSE NEIGHBOUR: 'it returns false'. Refute it at one input. -/
def bonusMeetsWrong : ChangeSpec := { name := "bonusMeets", fn := fun _ => fun
  | [d1, d2] => { results := [.lit (.bool false)], args := [d1, d2] }
  | _ => none }
def BonusMeetsWrongFalsely : Prop := bonusMeetsRow.holds Tryd.pinned (OpenSpec.ofChange bonusMeetsWrong)

/-- 'metrolablaw47.GaugeLasts': WHATEVER THE INPUT: true; the input reads as it did. -/
def gaugeLastsSpec : ChangeSpec := { name := "gaugeLasts", fn := fun _ => fun
  | [d1, d2, d3] => { results := [.lit (.bool true)], args := [d1, d2, d3] }
  | _ => none }
def gaugeLastsRow : OpenClaim := { program := "ytjemaonejkepcaadoor", sum := "062a33d3bd30d99bfd6922fa1d5551dbd57e7e09c30a4980d44194de1c9ebea4", func := "metrolab/metrolablaw47.GaugeLasts", spec := "gaugeLasts", unfollowed := true, recurses := true, named := ["metrolab/bonus.signs"], apart := false, laid := [("metrolab/bonus.signs", laid_metrolab_bonus_signs)] }
def GaugeLastsSaid : Prop := gaugeLastsRow.holds Tryd.pinned (OpenSpec.ofChange gaugeLastsSpec)

/-- ITS FALSE NEIGHBOUR: 'it returns false'. Refute it at one input. -/
def gaugeLastsWrong : ChangeSpec := { name := "gaugeLasts", fn := fun _ => fun
  | [d1, d2, d3] => { results := [.lit (.bool false)], args := [d1, d2, d3] }
  | _ => none }
def GaugeLastsWrongFalsely : Prop := gaugeLastsRow.holds Tryd.pinned (OpenSpec.ofChange gaugeLastsWrong)

/-- 'metrolablaw47.GaugeKeeps': WHATEVER THE INPUT: true; the input reads as it did. -/
def gaugeKeepsSpec : ChangeSpec := { name := "gaugeKeeps", fn := fun _ => fun
  | [d1, d2, d3] => { results := [.lit (.bool true)], args := [d1, d2, d3] }
  | _ => none }
def gaugeKeepsRow : OpenClaim := { program := "ytjemaonejkepcaadoor", sum := "062a33d3bd30d99bfd6922fa1d5551dbd57e7e09c30a4980d44194de1c9ebea4", func := "metrolab/metrolablaw47.GaugeKeeps", spec := "gaugeKeeps", unfollowed := true, recurses := true, named := ["metrolab/bonus.signs"], apart := false, laid := [("metrolab/bonus.signs", laid_metrolab_bonus_signs)] }
def GaugeKeepsSaid : Prop := gaugeKeepsRow.holds Tryd.pinned (OpenSpec.ofChange gaugeKeepsSpec)

/-- ITS FALSE NEIGHBOUR: 'it returns false'. Refute it at one input. -/
def gaugeKeepsWrong : ChangeSpec := { name := "gaugeKeeps", fn := fun _ => fun
  | [d1, d2, d3] => { results := [.lit (.bool false)], args := [d1, d2, d3] }
  | _ => none }
def GaugeKeepsWrongFalsely : Prop := gaugeKeepsRow.holds Tryd.pinned (OpenSpec.ofChange gaugeKeepsWrong)

/-- 'metrolablaw44.BonusGauges': WHATEVER THE INPUT: true; the input reads as it did. -/
def bonusGaugesSpec : ChangeSpec := { name := "bonusGauges", fn := fun _ => fun
  | [d1, d2, d3] => { results := [.lit (.bool true)], args := [d1, d2, d3] }
  | _ => none }
def bonusGaugesRow : OpenClaim := { program := "ytjemaonejkepcaadoor", sum := "062a33d3bd30d99bfd6922fa1d5551dbd57e7e09c30a4980d44194de1c9ebea4", func := "metrolab/metrolablaw44.BonusGauges", spec := "bonusGauges", named := ["metrolab/bonus.signs"], apart := false, laid := [("metrolab/bonus.signs", laid_metrolab_bonus_signs)] }
def BonusGaugesSaid : Prop := bonusGaugesRow.holds Tryd.pinned (OpenSpec.ofChange bonusGaugesSpec)

/-- ITS FALSE NEIGHBOUR: 'it returns false'. Refute it at one input. -/
def bonusGaugesWrong : ChangeSpec := { name := "bonusGauges", fn := fun _ => fun
  | [d1, d2, d3] => { results := [.lit (.bool false)], args := [d1, d2, d3] }
  | _ => none }
def BonusGaugesWrongFalsely : Prop := bonusGaugesRow.holds Tryd.pinned (OpenSpec.ofChange bonusGaugesWrong)

/-- 'metrolablaw44.BonusGrows': WHATEVER THE INPUT: true; the input reads as it did. -/
def bonusGrowsSpec : ChangeSpec := { name := "bonusGrows", fn := fun _ => fun
  | [d1, d2] => { results := [.lit (.bool true)], args := [d1, d2] }
  | _ => none }
def bonusGrowsRow : OpenClaim := { program := "ytjemaonejkepcaadoor", sum := "062a33d3bd30d99bfd6922fa1d5551dbd57e7e09c30a4980d44194de1c9ebea4", func := "metrolab/metrolablaw44.BonusGrows", spec := "bonusGrows", named := ["metrolab/bonus.signs"], apart := false, laid := [("metrolab/bonus.signs", laid_metrolab_bonus_signs)] }
def BonusGrowsSaid : Prop := bonusGrowsRow.holds Tryd.pinned (OpenSpec.ofChange bonusGrowsSpec)

/-- ITS FALSE NEIGHBOUR: 'it returns false'. Refute it at one input. -/
def bonusGrowsWrong : ChangeSpec := { name := "bonusGrows", fn := fun _ => fun
  | [d1, d2] => { results := [.lit (.bool false)], args := [d1, d2] }
  | _ => none }
def BonusGrowsWrongFalsely : Prop := bonusGrowsRow.holds Tryd.pinned (OpenSpec.ofChange bonusGrowsWrong)

/-- 'metrolablaw44.BonusBoxes': WHATEVER THE INPUT: true; the input reads as it did. -/
def bonusBoxesSpec : ChangeSpec := { name := "bonusBoxes", fn := fun _ => fun
  | [d1, d2, d3] => { results := [.lit (.bool true)], args := [d1, d2, d3] }
  | _ => none }
def bonusBoxesRow : OpenClaim := { program := "ytjemaonejkepcaadoor", sum := "062a33d3bd30d99bfd6922fa1d5551dbd57e7e09c30a4980d44194de1c9ebea4", func := "metrolab/metrolablaw44.BonusBoxes", spec := "bonusBoxes", named := ["metrolab/bonus.signs"], apart := false, laid := [("metrolab/bonus.signs", laid_metrolab_bonus_signs)] }
def BonusBoxesSaid : Prop := bonusBoxesRow.holds Tryd.pinned (OpenSpec.ofChange bonusBoxesSpec)

/-- ITS FALSE NEIGHBOUR: 'it returns false'. Refute it at one input. -/
def bonusBoxesWrong : ChangeSpec := { name := "bonusBoxes", fn := fun _ => fun
  | [d1, d2, d3] => { results := [.lit (.bool false)], args := [d1, d2, d3] }
  | _ => none }
def BonusBoxesWrongFalsely : Prop := bonusBoxesRow.holds Tryd.pinned (OpenSpec.ofChange bonusBoxesWrong)

/-- 'metrolablaw44.BonusKeeps': WHATEVER THE INPUT: true; the input reads as it did. -/
def bonusKeepsSpec : ChangeSpec := { name := "bonusKeeps", fn := fun _ => fun
  | [d1, d2] => { results := [.lit (.bool true)], args := [d1, d2] }
  | _ => none }
def bonusKeepsRow : OpenClaim := { program := "ytjemaonejkepcaadoor", sum := "062a33d3bd30d99bfd6922fa1d5551dbd57e7e09c30a4980d44194de1c9ebea4", func := "metrolab/metrolablaw44.BonusKeeps", spec := "bonusKeeps", named := ["metrolab/bonus.signs"], apart := false, laid := [("metrolab/bonus.signs", laid_metrolab_bonus_signs)] }
def BonusKeepsSaid : Prop := bonusKeepsRow.holds Tryd.pinned (OpenSpec.ofChange bonusKeepsSpec)

/-- ITS FALSE NEIGHBOUR: 'it returns false'. Refute it at one input. -/
def bonusKeepsWrong : ChangeSpec := { name := "bonusKeeps", fn := fun _ => fun
  | [d1, d2] => { results := [.lit (.bool false)], args := [d1, d2] }
  | _ => none }
def BonusKeepsWrongFalsely : Prop := bonusKeepsRow.holds Tryd.pinned (OpenSpec.ofChange bonusKeepsWrong)

/-- 'metrolablaw44.BonusPlates': WHATEVER THE INPUT: true; the input reads as it did. -/
def bonusPlatesSpec : ChangeSpec := { name := "bonusPlates", fn := fun _ => fun
  | [d1, d2] => { results := [.lit (.bool true)], args := [d1, d2] }
  | _ => none }
def bonusPlatesRow : OpenClaim := { program := "ytjemaonejkepcaadoor", sum := "062a33d3bd30d99bfd6922fa1d5551dbd57e7e09c30a4980d44194de1c9ebea4", func := "metrolab/metrolablaw44.BonusPlates", spec := "bonusPlates", named := ["metrolab/bonus.signs"], apart := false, laid := [("metrolab/bonus.signs", laid_metrolab_bonus_signs)] }
def BonusPlatesSaid : Prop := bonusPlatesRow.holds Tryd.pinned (OpenSpec.ofChange bonusPlatesSpec)

/-- ITS FALSE NEIGHBOUR: 'it returns false'. Refute it at one input. -/
def bonusPlatesWrong : ChangeSpec := { name := "bonusPlates", fn := fun _ => fun
  | [d1, d2] => { results := [.lit (.bool false)], args := [d1, d2] }
  | _ => none }
def BonusPlatesWrongFalsely : Prop := bonusPlatesRow.holds Tryd.pinned (OpenSpec.ofChange bonusPlatesWrong)

/-- 'metrolablaw47.GaugeGuards': WHATEVER THE INPUT: true; the input reads as it did. -/
def gaugeGuardsSpec : ChangeSpec := { name := "gaugeGuards", fn := fun _ => fun
  | [d1, d2] => { results := [.lit (.bool true)], args := [d1, d2] }
  | _ => none }
def gaugeGuardsRow : OpenClaim := { program := "ytjemaonejkepcaadoor", sum := "062a33d3bd30d99bfd6922fa1d5551dbd57e7e09c30a4980d44194de1c9ebea4", func := "metrolab/metrolablaw47.GaugeGuards", spec := "gaugeGuards", unfollowed := true, recurses := true, named := ["metrolab/bonus.signs"], apart := false, laid := [("metrolab/bonus.signs", laid_metrolab_bonus_signs)] }
def GaugeGuardsSaid : Prop := gaugeGuardsRow.holds Tryd.pinned (OpenSpec.ofChange gaugeGuardsSpec)

/-- ITS FALSE NEIGHBOUR: 'it returns false'. Refute it at one input. -/
def gaugeGuardsWrong : ChangeSpec := { name := "gaugeGuards", fn := fun _ => fun
  | [d1, d2] => { results := [.lit (.bool false)], args := [d1, d2] }
  | _ => none }
def GaugeGuardsWrongFalsely : Prop := gaugeGuardsRow.holds Tryd.pinned (OpenSpec.ofChange gaugeGuardsWrong)

/-- 'metrolablaw47.GaugeLoses': WHATEVER THE INPUT: true; the input reads as it did. -/
def gaugeLosesSpec : ChangeSpec := { name := "gaugeLoses", fn := fun _ => fun
  | [d1, d2, d3] => { results := [.lit (.bool true)], args := [d1, d2, d3] }
  | _ => none }
def gaugeLosesRow : OpenClaim := { program := "ytjemaonejkepcaadoor", sum := "062a33d3bd30d99bfd6922fa1d5551dbd57e7e09c30a4980d44194de1c9ebea4", func := "metrolab/metrolablaw47.GaugeLoses", spec := "gaugeLoses", unfollowed := true, recurses := true, named := ["metrolab/bonus.signs"], apart := false, laid := [("metrolab/bonus.signs", laid_metrolab_bonus_signs)] }
def GaugeLosesSaid : Prop := gaugeLosesRow.holds Tryd.pinned (OpenSpec.ofChange gaugeLosesSpec)

/-- ITS FALSE NEIGHBOUR: 'it returns false'. Refute it at one input. -/
def gaugeLosesWrong : ChangeSpec := { name := "gaugeLoses", fn := fun _ => fun
  | [d1, d2, d3] => { results := [.lit (.bool false)], args := [d1, d2, d3] }
  | _ => none }
def GaugeLosesWrongFalsely : Prop := gaugeLosesRow.holds Tryd.pinned (OpenSpec.ofChange gaugeLosesWrong)

/-- 'metrolablaw47.GaugeWears': WHATEVER THE INPUT: true; the input reads as it did. -/
def gaugeWearsSpec : ChangeSpec := { name := "gaugeWears", fn := fun _ => fun
  | [d1, d2] => { results := [.lit (.bool true)], args := [d1, d2] }
  | _ => none }
def gaugeWearsRow : OpenClaim := { program := "ytjemaonejkepcaadoor", sum := "062a33d3bd30d99bfd6922fa1d5551dbd57e7e09c30a4980d44194de1c9ebea4", func := "metrolab/metrolablaw47.GaugeWears", spec := "gaugeWears", unfollowed := true, recurses := true, named := ["metrolab/bonus.signs"], apart := false, laid := [("metrolab/bonus.signs", laid_metrolab_bonus_signs)] }
def GaugeWearsSaid : Prop := gaugeWearsRow.holds Tryd.pinned (OpenSpec.ofChange gaugeWearsSpec)

/-- ITS FALSE NEIGHBOUR: 'it returns false'. Refute it at one input. -/
def gaugeWearsWrong : ChangeSpec := { name := "gaugeWears", fn := fun _ => fun
  | [d1, d2] => { results := [.lit (.bool false)], args := [d1, d2] }
  | _ => none }
def GaugeWearsWrongFalsely : Prop := gaugeWearsRow.holds Tryd.pinned (OpenSpec.ofChange gaugeWearsWrong)

/-- 'metrolablaw47.GaugeNarrows': WHATEVER THE INPUT: true; the input reads as it did. -/
def gaugeNarrowsSpec : ChangeSpec := { name := "gaugeNarrows", fn := fun _ => fun
  | [d1, d2] => { results := [.lit (.bool true)], args := [d1, d2] }
  | _ => none }
def gaugeNarrowsRow : OpenClaim := { program := "ytjemaonejkepcaadoor", sum := "062a33d3bd30d99bfd6922fa1d5551dbd57e7e09c30a4980d44194de1c9ebea4", func := "metrolab/metrolablaw47.GaugeNarrows", spec := "gaugeNarrows", unfollowed := true, recurses := true, named := ["metrolab/bonus.signs"], apart := false, laid := [("metrolab/bonus.signs", laid_metrolab_bonus_signs)] }
def GaugeNarrowsSaid : Prop := gaugeNarrowsRow.holds Tryd.pinned (OpenSpec.ofChange gaugeNarrowsSpec)

/-- ITS FALSE NEIGHBOUR: 'it returns false'. Refute it at one input. -/
def gaugeNarrowsWrong : ChangeSpec := { name := "gaugeNarrows", fn := fun _ => fun
  | [d1, d2] => { results := [.lit (.bool false)], args := [d1, d2] }
  | _ => none }
def GaugeNarrowsWrongFalsely : Prop := gaugeNarrowsRow.holds Tryd.pinned (OpenSpec.ofChange gaugeNarrowsWrong)

/-- 'metrolablaw47.GaugeDesigns': WHATEVER THE INPUT: true; the input reads as it did. -/
def gaugeDesignsSpec : ChangeSpec := { name := "gaugeDesigns", fn := fun _ => fun
  | [d1, d2] => { results := [.lit (.bool true)], args := [d1, d2] }
  | _ => none }
def gaugeDesignsRow : OpenClaim := { program := "ytjemaonejkepcaadoor", sum := "062a33d3bd30d99bfd6922fa1d5551dbd57e7e09c30a4980d44194de1c9ebea4", func := "metrolab/metrolablaw47.GaugeDesigns", spec := "gaugeDesigns", unfollowed := true, recurses := true, named := ["metrolab/bonus.signs"], apart := false, laid := [("metrolab/bonus.signs", laid_metrolab_bonus_signs)] }
def GaugeDesignsSaid : Prop := gaugeDesignsRow.holds Tryd.pinned (OpenSpec.ofChange gaugeDesignsSpec)

/-- ITS FALSE NEIGHBOUR: 'it returns false'. Refute it at one input. -/
def gaugeDesignsWrong : ChangeSpec := { name := "gaugeDesigns", fn := fun _ => fun
  | [d1, d2] => { results := [.lit (.bool false)], args := [d1, d2] }
  | _ => none }
def GaugeDesignsWrongFalsely : Prop := gaugeDesignsRow.holds Tryd.pinned (OpenSpec.ofChange gaugeDesignsWrong)

/- THE SECOND FORM. 'bulk': how many values and letters a reading holds, each counted each time it is reached (what is shared counts as often as it is met; a slice's spare places count too). A statement '..UptoSaid' is the law's where the arguments, and the package variables that the reading takes, are together of bulk at most 1048576: NARROWER than '..Said'. Prove '..Said' where nothing that the law and all that it calls make is longer than what came in: it says more and counts as full. Else prove '..UptoSaid'. A law counts once. -/
mutual
def uptoBulk {H : Type} : DataW H → Nat
  | .lit (.string bytes) => bytes.length + 1
  | .lit _ => 1
  | .nil => 1
  | .ptr d => uptoBulk d + 1
  | .slice elems spare => uptoBulkAll elems + uptoBulkAll spare + 1
  | .agg parts => uptoBulkAll parts + 1
  | .iface _ d => uptoBulk d + 1
  | .map entries => uptoBulkEntries entries + 1
  | .held _ => 1
def uptoBulkAll {H : Type} : List (DataW H) → Nat
  | [] => 0
  | d :: r => uptoBulk d + uptoBulkAll r
def uptoBulkEntries {H : Type} : List (Lit × DataW H) → Nat
  | [] => 0
  | x :: r => uptoBulkEntry x + uptoBulkEntries r
def uptoBulkEntry {H : Type} : Lit × DataW H → Nat
  | (.string bytes, d) => bytes.length + uptoBulk d + 1
  | (_, d) => uptoBulk d + 1
 end
def uptoSmall : (H : Type) → List (DataW H) → Bool := fun _ ds => decide (uptoBulkAll ds ≤ 1048576)
def OpenSpec.upto (s : _root_.Go.ChangeSpec) : _root_.Go.OpenSpec := { _root_.Go.OpenSpec.ofChange s with cond := some uptoSmall }

/-- 'metrolablaw44.BonusChecks', WHERE WHAT IT READS IS OF BULK AT MOST 1048576: true; the input reads as it did. -/
def bonusChecksUptoRow : OpenClaim := { program := "ytjemaonejkepcaadoor", sum := "062a33d3bd30d99bfd6922fa1d5551dbd57e7e09c30a4980d44194de1c9ebea4", func := "metrolab/metrolablaw44.BonusChecks", spec := "bonusChecks", named := ["metrolab/bonus.signs"], apart := false, laid := [("metrolab/bonus.signs", laid_metrolab_bonus_signs)], narrowed := true }
def BonusChecksUptoSaid : Prop := bonusChecksUptoRow.holds Tryd.pinned (OpenSpec.upto bonusChecksSpec)

/-- 'metrolablaw44.BonusSizes', WHERE WHAT IT READS IS OF BULK AT MOST 1048576: true; the input reads as it did. -/
def bonusSizesUptoRow : OpenClaim := { program := "ytjemaonejkepcaadoor", sum := "062a33d3bd30d99bfd6922fa1d5551dbd57e7e09c30a4980d44194de1c9ebea4", func := "metrolab/metrolablaw44.BonusSizes", spec := "bonusSizes", named := ["metrolab/bonus.signs"], apart := false, laid := [("metrolab/bonus.signs", laid_metrolab_bonus_signs)], narrowed := true }
def BonusSizesUptoSaid : Prop := bonusSizesUptoRow.holds Tryd.pinned (OpenSpec.upto bonusSizesSpec)

/-- 'metrolablaw44.BonusMeets', WHERE WHAT IT READS IS OF BULK AT MOST 1048576: true; the input reads as it did. -/
def bonusMeetsUptoRow : OpenClaim := { program := "ytjemaonejkepcaadoor", sum := "062a33d3bd30d99bfd6922fa1d5551dbd57e7e09c30a4980d44194de1c9ebea4", func := "metrolab/metrolablaw44.BonusMeets", spec := "bonusMeets", named := ["metrolab/bonus.signs"], apart := false, laid := [("metrolab/bonus.signs", laid_metrolab_bonus_signs)], narrowed := true }
def BonusMeetsUptoSaid : Prop := bonusMeetsUptoRow.holds Tryd.pinned (OpenSpec.upto bonusMeetsSpec)

/-- 'metrolablaw47.GaugeLasts', WHERE WHAT IT READS IS OF BULK AT MOST 1048576: true; the input reads as it did. -/
def gaugeLastsUptoRow : OpenClaim := { program := "ytjemaonejkepcaadoor", sum := "062a33d3bd30d99bfd6922fa1d5551dbd57e7e09c30a4980d44194de1c9ebea4", func := "metrolab/metrolablaw47.GaugeLasts", spec := "gaugeLasts", unfollowed := true, recurses := true, named := ["metrolab/bonus.signs"], apart := false, laid := [("metrolab/bonus.signs", laid_metrolab_bonus_signs)], narrowed := true }
def GaugeLastsUptoSaid : Prop := gaugeLastsUptoRow.holds Tryd.pinned (OpenSpec.upto gaugeLastsSpec)

/-- 'metrolablaw47.GaugeKeeps', WHERE WHAT IT READS IS OF BULK AT MOST 1048576: true; the input reads as it did. -/
def gaugeKeepsUptoRow : OpenClaim := { program := "ytjemaonejkepcaadoor", sum := "062a33d3bd30d99bfd6922fa1d5551dbd57e7e09c30a4980d44194de1c9ebea4", func := "metrolab/metrolablaw47.GaugeKeeps", spec := "gaugeKeeps", unfollowed := true, recurses := true, named := ["metrolab/bonus.signs"], apart := false, laid := [("metrolab/bonus.signs", laid_metrolab_bonus_signs)], narrowed := true }
def GaugeKeepsUptoSaid : Prop := gaugeKeepsUptoRow.holds Tryd.pinned (OpenSpec.upto gaugeKeepsSpec)

/-- 'metrolablaw44.BonusGauges', WHERE WHAT IT READS IS OF BULK AT MOST 1048576: true; the input reads as it did. -/
def bonusGaugesUptoRow : OpenClaim := { program := "ytjemaonejkepcaadoor", sum := "062a33d3bd30d99bfd6922fa1d5551dbd57e7e09c30a4980d44194de1c9ebea4", func := "metrolab/metrolablaw44.BonusGauges", spec := "bonusGauges", named := ["metrolab/bonus.signs"], apart := false, laid := [("metrolab/bonus.signs", laid_metrolab_bonus_signs)], narrowed := true }
def BonusGaugesUptoSaid : Prop := bonusGaugesUptoRow.holds Tryd.pinned (OpenSpec.upto bonusGaugesSpec)

/-- 'metrolablaw44.BonusGrows', WHERE WHAT IT READS IS OF BULK AT MOST 1048576: true; the input reads as it did. -/
def bonusGrowsUptoRow : OpenClaim := { program := "ytjemaonejkepcaadoor", sum := "062a33d3bd30d99bfd6922fa1d5551dbd57e7e09c30a4980d44194de1c9ebea4", func := "metrolab/metrolablaw44.BonusGrows", spec := "bonusGrows", named := ["metrolab/bonus.signs"], apart := false, laid := [("metrolab/bonus.signs", laid_metrolab_bonus_signs)], narrowed := true }
def BonusGrowsUptoSaid : Prop := bonusGrowsUptoRow.holds Tryd.pinned (OpenSpec.upto bonusGrowsSpec)

/-- 'metrolablaw44.BonusBoxes', WHERE WHAT IT READS IS OF BULK AT MOST 1048576: true; the input reads as it did. -/
def bonusBoxesUptoRow : OpenClaim := { program := "ytjemaonejkepcaadoor", sum := "062a33d3bd30d99bfd6922fa1d5551dbd57e7e09c30a4980d44194de1c9ebea4", func := "metrolab/metrolablaw44.BonusBoxes", spec := "bonusBoxes", named := ["metrolab/bonus.signs"], apart := false, laid := [("metrolab/bonus.signs", laid_metrolab_bonus_signs)], narrowed := true }
def BonusBoxesUptoSaid : Prop := bonusBoxesUptoRow.holds Tryd.pinned (OpenSpec.upto bonusBoxesSpec)

/-- 'metrolablaw44.BonusKeeps', WHERE WHAT IT READS IS OF BULK AT MOST 1048576: true; the input reads as it did. -/
def bonusKeepsUptoRow : OpenClaim := { program := "ytjemaonejkepcaadoor", sum := "062a33d3bd30d99bfd6922fa1d5551dbd57e7e09c30a4980d44194de1c9ebea4", func := "metrolab/metrolablaw44.BonusKeeps", spec := "bonusKeeps", named := ["metrolab/bonus.signs"], apart := false, laid := [("metrolab/bonus.signs", laid_metrolab_bonus_signs)], narrowed := true }
def BonusKeepsUptoSaid : Prop := bonusKeepsUptoRow.holds Tryd.pinned (OpenSpec.upto bonusKeepsSpec)

/-- 'metrolablaw44.BonusPlates', WHERE WHAT IT READS IS OF BULK AT MOST 1048576: true; the input reads as it did. -/
def bonusPlatesUptoRow : OpenClaim := { program := "ytjemaonejkepcaadoor", sum := "062a33d3bd30d99bfd6922fa1d5551dbd57e7e09c30a4980d44194de1c9ebea4", func := "metrolab/metrolablaw44.BonusPlates", spec := "bonusPlates", named := ["metrolab/bonus.signs"], apart := false, laid := [("metrolab/bonus.signs", laid_metrolab_bonus_signs)], narrowed := true }
def BonusPlatesUptoSaid : Prop := bonusPlatesUptoRow.holds Tryd.pinned (OpenSpec.upto bonusPlatesSpec)

/-- 'metrolablaw47.GaugeGuards', WHERE WHAT IT READS IS OF BULK AT MOST 1048576: true; the input reads as it did. -/
def gaugeGuardsUptoRow : OpenClaim := { program := "ytjemaonejkepcaadoor", sum := "062a33d3bd30d99bfd6922fa1d5551dbd57e7e09c30a4980d44194de1c9ebea4", func := "metrolab/metrolablaw47.GaugeGuards", spec := "gaugeGuards", unfollowed := true, recurses := true, named := ["metrolab/bonus.signs"], apart := false, laid := [("metrolab/bonus.signs", laid_metrolab_bonus_signs)], narrowed := true }
def GaugeGuardsUptoSaid : Prop := gaugeGuardsUptoRow.holds Tryd.pinned (OpenSpec.upto gaugeGuardsSpec)

/-- 'metrolablaw47.GaugeLoses', WHERE WHAT IT READS IS OF BULK AT MOST 1048576: true; the input reads as it did. -/
def gaugeLosesUptoRow : OpenClaim := { program := "ytjemaonejkepcaadoor", sum := "062a33d3bd30d99bfd6922fa1d5551dbd57e7e09c30a4980d44194de1c9ebea4", func := "metrolab/metrolablaw47.GaugeLoses", spec := "gaugeLoses", unfollowed := true, recurses := true, named := ["metrolab/bonus.signs"], apart := false, laid := [("metrolab/bonus.signs", laid_metrolab_bonus_signs)], narrowed := true }
def GaugeLosesUptoSaid : Prop := gaugeLosesUptoRow.holds Tryd.pinned (OpenSpec.upto gaugeLosesSpec)

/-- 'metrolablaw47.GaugeWears', WHERE WHAT IT READS IS OF BULK AT MOST 1048576: true; the input reads as it did. -/
def gaugeWearsUptoRow : OpenClaim := { program := "ytjemaonejkepcaadoor", sum := "062a33d3bd30d99bfd6922fa1d5551dbd57e7e09c30a4980d44194de1c9ebea4", func := "metrolab/metrolablaw47.GaugeWears", spec := "gaugeWears", unfollowed := true, recurses := true, named := ["metrolab/bonus.signs"], apart := false, laid := [("metrolab/bonus.signs", laid_metrolab_bonus_signs)], narrowed := true }
def GaugeWearsUptoSaid : Prop := gaugeWearsUptoRow.holds Tryd.pinned (OpenSpec.upto gaugeWearsSpec)

/-- 'metrolablaw47.GaugeNarrows', WHERE WHAT IT READS IS OF BULK AT MOST 1048576: true; the input reads as it did. -/
def gaugeNarrowsUptoRow : OpenClaim := { program := "ytjemaonejkepcaadoor", sum := "062a33d3bd30d99bfd6922fa1d5551dbd57e7e09c30a4980d44194de1c9ebea4", func := "metrolab/metrolablaw47.GaugeNarrows", spec := "gaugeNarrows", unfollowed := true, recurses := true, named := ["metrolab/bonus.signs"], apart := false, laid := [("metrolab/bonus.signs", laid_metrolab_bonus_signs)], narrowed := true }
def GaugeNarrowsUptoSaid : Prop := gaugeNarrowsUptoRow.holds Tryd.pinned (OpenSpec.upto gaugeNarrowsSpec)

/-- 'metrolablaw47.GaugeDesigns', WHERE WHAT IT READS IS OF BULK AT MOST 1048576: true; the input reads as it did. -/
def gaugeDesignsUptoRow : OpenClaim := { program := "ytjemaonejkepcaadoor", sum := "062a33d3bd30d99bfd6922fa1d5551dbd57e7e09c30a4980d44194de1c9ebea4", func := "metrolab/metrolablaw47.GaugeDesigns", spec := "gaugeDesigns", unfollowed := true, recurses := true, named := ["metrolab/bonus.signs"], apart := false, laid := [("metrolab/bonus.signs", laid_metrolab_bonus_signs)], narrowed := true }
def GaugeDesignsUptoSaid : Prop := gaugeDesignsUptoRow.holds Tryd.pinned (OpenSpec.upto gaugeDesignsSpec)

end Rows
end Go.Proofs.YtjemaonejkepcaaDoor
