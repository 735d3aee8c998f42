/-
  DERIVED. GIVEN WITH THE SEED: THE CARDS: each row of YtjemaonejkepcaaDoorRows.lean that lists a variable, with what it lists TIED to the program's text (the seventh form; the later family's looks); each row that meets fmt, with fmt's text TOLD by the authors' own Lean function (tested against real Go, not proved from fmt's source: count such statements apart). THE CARD IS WHAT COUNTS. Prove the row's statement (the work); the ties are given (YtjemaonejkepcaaDoorTie.lean); close each card by the builder's one call (the guide's Derived/Test/ToyasCard.lean, 'card_holds'). Laid BY PROGRAM, IN A SANDBOX (cutbox-door.mjs). By AI agents, Wed Nov 11 2026. No macro, syntax, notation, axiom, sorry.
-/
import Derived.Test.YtjemaonejkepcaaDoorRows
import GoSem.ClaimSeven
namespace Go.Proofs.YtjemaonejkepcaaDoor
namespace Rows

/-- THE TIED CARD OF 'metrolablaw44.BonusChecks'. -/
def bonusChecksCard : Claim7 := { stood := { row := bonusChecksRow, standIns := [], harness := (true, "57f8214f26ea43d317a529cebcfe0ad41cb5c4470725cbfb040c77cdf2d0f82b"), looks := false }, kinds := [], alts := [], laidByText := true, laidKinds := [.data], laidTests := true, laidLooks := .later }
def BonusChecksCardSaid : Prop := Claim7.holds Tryd.pinned (.plain (OpenSpec.ofChange bonusChecksSpec)) bonusChecksCard

/-- THE TIED CARD OF 'metrolablaw44.BonusSizes'. -/
def bonusSizesCard : Claim7 := { stood := { row := bonusSizesRow, standIns := [], harness := (true, "57f8214f26ea43d317a529cebcfe0ad41cb5c4470725cbfb040c77cdf2d0f82b"), looks := false }, kinds := [], alts := [], laidByText := true, laidKinds := [.data], laidTests := true, laidLooks := .later }
def BonusSizesCardSaid : Prop := Claim7.holds Tryd.pinned (.plain (OpenSpec.ofChange bonusSizesSpec)) bonusSizesCard

/-- THE TIED CARD OF 'metrolablaw44.BonusMeets'. -/
def bonusMeetsCard : Claim7 := { stood := { row := bonusMeetsRow, standIns := [], harness := (true, "57f8214f26ea43d317a529cebcfe0ad41cb5c4470725cbfb040c77cdf2d0f82b"), looks := false }, kinds := [], alts := [], laidByText := true, laidKinds := [.data], laidTests := true, laidLooks := .later }
def BonusMeetsCardSaid : Prop := Claim7.holds Tryd.pinned (.plain (OpenSpec.ofChange bonusMeetsSpec)) bonusMeetsCard

/-- THE TIED CARD OF 'metrolablaw47.GaugeLasts'. -/
def gaugeLastsCard : Claim7 := { stood := { row := gaugeLastsRow, standIns := [], harness := (true, "57f8214f26ea43d317a529cebcfe0ad41cb5c4470725cbfb040c77cdf2d0f82b"), looks := false }, kinds := [], alts := [], laidByText := true, laidKinds := [.data], laidTests := true, laidLooks := .later }
def GaugeLastsCardSaid : Prop := Claim7.holds Tryd.pinned (.plain (OpenSpec.ofChange gaugeLastsSpec)) gaugeLastsCard

/-- THE TIED CARD OF 'metrolablaw47.GaugeKeeps'. -/
def gaugeKeepsCard : Claim7 := { stood := { row := gaugeKeepsRow, standIns := [], harness := (true, "57f8214f26ea43d317a529cebcfe0ad41cb5c4470725cbfb040c77cdf2d0f82b"), looks := false }, kinds := [], alts := [], laidByText := true, laidKinds := [.data], laidTests := true, laidLooks := .later }
def GaugeKeepsCardSaid : Prop := Claim7.holds Tryd.pinned (.plain (OpenSpec.ofChange gaugeKeepsSpec)) gaugeKeepsCard

/-- THE TIED CARD OF 'metrolablaw44.BonusGauges'. -/
def bonusGaugesCard : Claim7 := { stood := { row := bonusGaugesRow, standIns := [], harness := (true, "57f8214f26ea43d317a529cebcfe0ad41cb5c4470725cbfb040c77cdf2d0f82b"), looks := false }, kinds := [], alts := [], laidByText := true, laidKinds := [.data], laidTests := true, laidLooks := .later }
def BonusGaugesCardSaid : Prop := Claim7.holds Tryd.pinned (.plain (OpenSpec.ofChange bonusGaugesSpec)) bonusGaugesCard

/-- THE TIED CARD OF 'metrolablaw44.BonusGrows'. -/
def bonusGrowsCard : Claim7 := { stood := { row := bonusGrowsRow, standIns := [], harness := (true, "57f8214f26ea43d317a529cebcfe0ad41cb5c4470725cbfb040c77cdf2d0f82b"), looks := false }, kinds := [], alts := [], laidByText := true, laidKinds := [.data], laidTests := true, laidLooks := .later }
def BonusGrowsCardSaid : Prop := Claim7.holds Tryd.pinned (.plain (OpenSpec.ofChange bonusGrowsSpec)) bonusGrowsCard

/-- THE TIED CARD OF 'metrolablaw44.BonusBoxes'. -/
def bonusBoxesCard : Claim7 := { stood := { row := bonusBoxesRow, standIns := [], harness := (true, "57f8214f26ea43d317a529cebcfe0ad41cb5c4470725cbfb040c77cdf2d0f82b"), looks := false }, kinds := [], alts := [], laidByText := true, laidKinds := [.data], laidTests := true, laidLooks := .later }
def BonusBoxesCardSaid : Prop := Claim7.holds Tryd.pinned (.plain (OpenSpec.ofChange bonusBoxesSpec)) bonusBoxesCard

/-- THE TIED CARD OF 'metrolablaw44.BonusKeeps'. -/
def bonusKeepsCard : Claim7 := { stood := { row := bonusKeepsRow, standIns := [], harness := (true, "57f8214f26ea43d317a529cebcfe0ad41cb5c4470725cbfb040c77cdf2d0f82b"), looks := false }, kinds := [], alts := [], laidByText := true, laidKinds := [.data], laidTests := true, laidLooks := .later }
def BonusKeepsCardSaid : Prop := Claim7.holds Tryd.pinned (.plain (OpenSpec.ofChange bonusKeepsSpec)) bonusKeepsCard

/-- THE TIED CARD OF 'metrolablaw44.BonusPlates'. -/
def bonusPlatesCard : Claim7 := { stood := { row := bonusPlatesRow, standIns := [], harness := (true, "57f8214f26ea43d317a529cebcfe0ad41cb5c4470725cbfb040c77cdf2d0f82b"), looks := false }, kinds := [], alts := [], laidByText := true, laidKinds := [.data], laidTests := true, laidLooks := .later }
def BonusPlatesCardSaid : Prop := Claim7.holds Tryd.pinned (.plain (OpenSpec.ofChange bonusPlatesSpec)) bonusPlatesCard

/-- THE TIED CARD OF 'metrolablaw47.GaugeGuards'. -/
def gaugeGuardsCard : Claim7 := { stood := { row := gaugeGuardsRow, standIns := [], harness := (true, "57f8214f26ea43d317a529cebcfe0ad41cb5c4470725cbfb040c77cdf2d0f82b"), looks := false }, kinds := [], alts := [], laidByText := true, laidKinds := [.data], laidTests := true, laidLooks := .later }
def GaugeGuardsCardSaid : Prop := Claim7.holds Tryd.pinned (.plain (OpenSpec.ofChange gaugeGuardsSpec)) gaugeGuardsCard

/-- THE TIED CARD OF 'metrolablaw47.GaugeLoses'. -/
def gaugeLosesCard : Claim7 := { stood := { row := gaugeLosesRow, standIns := [], harness := (true, "57f8214f26ea43d317a529cebcfe0ad41cb5c4470725cbfb040c77cdf2d0f82b"), looks := false }, kinds := [], alts := [], laidByText := true, laidKinds := [.data], laidTests := true, laidLooks := .later }
def GaugeLosesCardSaid : Prop := Claim7.holds Tryd.pinned (.plain (OpenSpec.ofChange gaugeLosesSpec)) gaugeLosesCard

/-- THE TIED CARD OF 'metrolablaw47.GaugeWears'. -/
def gaugeWearsCard : Claim7 := { stood := { row := gaugeWearsRow, standIns := [], harness := (true, "57f8214f26ea43d317a529cebcfe0ad41cb5c4470725cbfb040c77cdf2d0f82b"), looks := false }, kinds := [], alts := [], laidByText := true, laidKinds := [.data], laidTests := true, laidLooks := .later }
def GaugeWearsCardSaid : Prop := Claim7.holds Tryd.pinned (.plain (OpenSpec.ofChange gaugeWearsSpec)) gaugeWearsCard

/-- THE TIED CARD OF 'metrolablaw47.GaugeNarrows'. -/
def gaugeNarrowsCard : Claim7 := { stood := { row := gaugeNarrowsRow, standIns := [], harness := (true, "57f8214f26ea43d317a529cebcfe0ad41cb5c4470725cbfb040c77cdf2d0f82b"), looks := false }, kinds := [], alts := [], laidByText := true, laidKinds := [.data], laidTests := true, laidLooks := .later }
def GaugeNarrowsCardSaid : Prop := Claim7.holds Tryd.pinned (.plain (OpenSpec.ofChange gaugeNarrowsSpec)) gaugeNarrowsCard

/-- THE TIED CARD OF 'metrolablaw47.GaugeDesigns'. -/
def gaugeDesignsCard : Claim7 := { stood := { row := gaugeDesignsRow, standIns := [], harness := (true, "57f8214f26ea43d317a529cebcfe0ad41cb5c4470725cbfb040c77cdf2d0f82b"), looks := false }, kinds := [], alts := [], laidByText := true, laidKinds := [.data], laidTests := true, laidLooks := .later }
def GaugeDesignsCardSaid : Prop := Claim7.holds Tryd.pinned (.plain (OpenSpec.ofChange gaugeDesignsSpec)) gaugeDesignsCard

/-- THE SECOND FORM's CARD OF 'metrolablaw44.BonusChecks'. -/
def bonusChecksUptoCard : Claim7 := { stood := { row := bonusChecksUptoRow, standIns := [], harness := (true, "57f8214f26ea43d317a529cebcfe0ad41cb5c4470725cbfb040c77cdf2d0f82b"), looks := false }, kinds := [], alts := [], laidByText := true, laidKinds := [.data], laidTests := true, laidLooks := .later }
def BonusChecksUptoCardSaid : Prop := Claim7.holds Tryd.pinned (.plain (OpenSpec.upto bonusChecksSpec)) bonusChecksUptoCard

/-- THE SECOND FORM's CARD OF 'metrolablaw44.BonusSizes'. -/
def bonusSizesUptoCard : Claim7 := { stood := { row := bonusSizesUptoRow, standIns := [], harness := (true, "57f8214f26ea43d317a529cebcfe0ad41cb5c4470725cbfb040c77cdf2d0f82b"), looks := false }, kinds := [], alts := [], laidByText := true, laidKinds := [.data], laidTests := true, laidLooks := .later }
def BonusSizesUptoCardSaid : Prop := Claim7.holds Tryd.pinned (.plain (OpenSpec.upto bonusSizesSpec)) bonusSizesUptoCard

/-- THE SECOND FORM's CARD OF 'metrolablaw44.BonusMeets'. -/
def bonusMeetsUptoCard : Claim7 := { stood := { row := bonusMeetsUptoRow, standIns := [], harness := (true, "57f8214f26ea43d317a529cebcfe0ad41cb5c4470725cbfb040c77cdf2d0f82b"), looks := false }, kinds := [], alts := [], laidByText := true, laidKinds := [.data], laidTests := true, laidLooks := .later }
def BonusMeetsUptoCardSaid : Prop := Claim7.holds Tryd.pinned (.plain (OpenSpec.upto bonusMeetsSpec)) bonusMeetsUptoCard

/-- THE SECOND FORM's CARD OF 'metrolablaw47.GaugeLasts'. -/
def gaugeLastsUptoCard : Claim7 := { stood := { row := gaugeLastsUptoRow, standIns := [], harness := (true, "57f8214f26ea43d317a529cebcfe0ad41cb5c4470725cbfb040c77cdf2d0f82b"), looks := false }, kinds := [], alts := [], laidByText := true, laidKinds := [.data], laidTests := true, laidLooks := .later }
def GaugeLastsUptoCardSaid : Prop := Claim7.holds Tryd.pinned (.plain (OpenSpec.upto gaugeLastsSpec)) gaugeLastsUptoCard

/-- THE SECOND FORM's CARD OF 'metrolablaw47.GaugeKeeps'. -/
def gaugeKeepsUptoCard : Claim7 := { stood := { row := gaugeKeepsUptoRow, standIns := [], harness := (true, "57f8214f26ea43d317a529cebcfe0ad41cb5c4470725cbfb040c77cdf2d0f82b"), looks := false }, kinds := [], alts := [], laidByText := true, laidKinds := [.data], laidTests := true, laidLooks := .later }
def GaugeKeepsUptoCardSaid : Prop := Claim7.holds Tryd.pinned (.plain (OpenSpec.upto gaugeKeepsSpec)) gaugeKeepsUptoCard

/-- THE SECOND FORM's CARD OF 'metrolablaw44.BonusGauges'. -/
def bonusGaugesUptoCard : Claim7 := { stood := { row := bonusGaugesUptoRow, standIns := [], harness := (true, "57f8214f26ea43d317a529cebcfe0ad41cb5c4470725cbfb040c77cdf2d0f82b"), looks := false }, kinds := [], alts := [], laidByText := true, laidKinds := [.data], laidTests := true, laidLooks := .later }
def BonusGaugesUptoCardSaid : Prop := Claim7.holds Tryd.pinned (.plain (OpenSpec.upto bonusGaugesSpec)) bonusGaugesUptoCard

/-- THE SECOND FORM's CARD OF 'metrolablaw44.BonusGrows'. -/
def bonusGrowsUptoCard : Claim7 := { stood := { row := bonusGrowsUptoRow, standIns := [], harness := (true, "57f8214f26ea43d317a529cebcfe0ad41cb5c4470725cbfb040c77cdf2d0f82b"), looks := false }, kinds := [], alts := [], laidByText := true, laidKinds := [.data], laidTests := true, laidLooks := .later }
def BonusGrowsUptoCardSaid : Prop := Claim7.holds Tryd.pinned (.plain (OpenSpec.upto bonusGrowsSpec)) bonusGrowsUptoCard

/-- THE SECOND FORM's CARD OF 'metrolablaw44.BonusBoxes'. -/
def bonusBoxesUptoCard : Claim7 := { stood := { row := bonusBoxesUptoRow, standIns := [], harness := (true, "57f8214f26ea43d317a529cebcfe0ad41cb5c4470725cbfb040c77cdf2d0f82b"), looks := false }, kinds := [], alts := [], laidByText := true, laidKinds := [.data], laidTests := true, laidLooks := .later }
def BonusBoxesUptoCardSaid : Prop := Claim7.holds Tryd.pinned (.plain (OpenSpec.upto bonusBoxesSpec)) bonusBoxesUptoCard

/-- THE SECOND FORM's CARD OF 'metrolablaw44.BonusKeeps'. -/
def bonusKeepsUptoCard : Claim7 := { stood := { row := bonusKeepsUptoRow, standIns := [], harness := (true, "57f8214f26ea43d317a529cebcfe0ad41cb5c4470725cbfb040c77cdf2d0f82b"), looks := false }, kinds := [], alts := [], laidByText := true, laidKinds := [.data], laidTests := true, laidLooks := .later }
def BonusKeepsUptoCardSaid : Prop := Claim7.holds Tryd.pinned (.plain (OpenSpec.upto bonusKeepsSpec)) bonusKeepsUptoCard

/-- THE SECOND FORM's CARD OF 'metrolablaw44.BonusPlates'. -/
def bonusPlatesUptoCard : Claim7 := { stood := { row := bonusPlatesUptoRow, standIns := [], harness := (true, "57f8214f26ea43d317a529cebcfe0ad41cb5c4470725cbfb040c77cdf2d0f82b"), looks := false }, kinds := [], alts := [], laidByText := true, laidKinds := [.data], laidTests := true, laidLooks := .later }
def BonusPlatesUptoCardSaid : Prop := Claim7.holds Tryd.pinned (.plain (OpenSpec.upto bonusPlatesSpec)) bonusPlatesUptoCard

/-- THE SECOND FORM's CARD OF 'metrolablaw47.GaugeGuards'. -/
def gaugeGuardsUptoCard : Claim7 := { stood := { row := gaugeGuardsUptoRow, standIns := [], harness := (true, "57f8214f26ea43d317a529cebcfe0ad41cb5c4470725cbfb040c77cdf2d0f82b"), looks := false }, kinds := [], alts := [], laidByText := true, laidKinds := [.data], laidTests := true, laidLooks := .later }
def GaugeGuardsUptoCardSaid : Prop := Claim7.holds Tryd.pinned (.plain (OpenSpec.upto gaugeGuardsSpec)) gaugeGuardsUptoCard

/-- THE SECOND FORM's CARD OF 'metrolablaw47.GaugeLoses'. -/
def gaugeLosesUptoCard : Claim7 := { stood := { row := gaugeLosesUptoRow, standIns := [], harness := (true, "57f8214f26ea43d317a529cebcfe0ad41cb5c4470725cbfb040c77cdf2d0f82b"), looks := false }, kinds := [], alts := [], laidByText := true, laidKinds := [.data], laidTests := true, laidLooks := .later }
def GaugeLosesUptoCardSaid : Prop := Claim7.holds Tryd.pinned (.plain (OpenSpec.upto gaugeLosesSpec)) gaugeLosesUptoCard

/-- THE SECOND FORM's CARD OF 'metrolablaw47.GaugeWears'. -/
def gaugeWearsUptoCard : Claim7 := { stood := { row := gaugeWearsUptoRow, standIns := [], harness := (true, "57f8214f26ea43d317a529cebcfe0ad41cb5c4470725cbfb040c77cdf2d0f82b"), looks := false }, kinds := [], alts := [], laidByText := true, laidKinds := [.data], laidTests := true, laidLooks := .later }
def GaugeWearsUptoCardSaid : Prop := Claim7.holds Tryd.pinned (.plain (OpenSpec.upto gaugeWearsSpec)) gaugeWearsUptoCard

/-- THE SECOND FORM's CARD OF 'metrolablaw47.GaugeNarrows'. -/
def gaugeNarrowsUptoCard : Claim7 := { stood := { row := gaugeNarrowsUptoRow, standIns := [], harness := (true, "57f8214f26ea43d317a529cebcfe0ad41cb5c4470725cbfb040c77cdf2d0f82b"), looks := false }, kinds := [], alts := [], laidByText := true, laidKinds := [.data], laidTests := true, laidLooks := .later }
def GaugeNarrowsUptoCardSaid : Prop := Claim7.holds Tryd.pinned (.plain (OpenSpec.upto gaugeNarrowsSpec)) gaugeNarrowsUptoCard

/-- THE SECOND FORM's CARD OF 'metrolablaw47.GaugeDesigns'. -/
def gaugeDesignsUptoCard : Claim7 := { stood := { row := gaugeDesignsUptoRow, standIns := [], harness := (true, "57f8214f26ea43d317a529cebcfe0ad41cb5c4470725cbfb040c77cdf2d0f82b"), looks := false }, kinds := [], alts := [], laidByText := true, laidKinds := [.data], laidTests := true, laidLooks := .later }
def GaugeDesignsUptoCardSaid : Prop := Claim7.holds Tryd.pinned (.plain (OpenSpec.upto gaugeDesignsSpec)) gaugeDesignsUptoCard
end Rows
end Go.Proofs.YtjemaonejkepcaaDoor
