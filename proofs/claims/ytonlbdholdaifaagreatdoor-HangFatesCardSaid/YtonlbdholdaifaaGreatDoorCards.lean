/-
  DERIVED. GIVEN WITH THE SEED: THE CARDS: each row of YtonlbdholdaifaaGreatDoorRows.lean that lists a variable, with what it lists TIED to the program's text (the seventh form; the later family's looks); each row that meets fmt, with fmt's text TOLD by the authors' own Lean function (tested against real Go, not proved from fmt's source: count such statements apart). THE CARD IS WHAT COUNTS. Prove the row's statement (the work); the ties are given (YtonlbdholdaifaaGreatDoorTie.lean); close each card by the builder's one call (the guide's Derived/Test/ToyasCard.lean, 'card_holds'). Laid BY PROGRAM, IN A SANDBOX (cutbox-door.mjs). By AI agents, Wed Nov 11 2026. No macro, syntax, notation, axiom, sorry.
-/
import Derived.Test.YtonlbdholdaifaaGreatDoorRows
import GoSem.ClaimSeven
namespace Go.Proofs.YtonlbdholdaifaaGreatDoor
namespace Rows

/-- THE TIED CARD OF 'rifflelaw16.EvalNodes'. -/
def evalNodesCard : Claim7 := { stood := { row := evalNodesRow, standIns := [], harness := (true, "9bbcd49bed471a6d8965d3df096e4b6aa957339af23ec6fd7dac5f1315be1993"), looks := true }, kinds := [], alts := [], laidByText := true, laidKinds := [.data, .data, .data, .sentinel, .sentinel], laidTests := true, laidLooks := .later }
def EvalNodesCardSaid : Prop := Claim7.holds Tryz.pinned (.plain (OpenSpec.ofChange evalNodesSpec)) evalNodesCard

/-- THE TIED CARD OF 'rifflelaw16.EvalPaths'. -/
def evalPathsCard : Claim7 := { stood := { row := evalPathsRow, standIns := [], harness := (true, "9bbcd49bed471a6d8965d3df096e4b6aa957339af23ec6fd7dac5f1315be1993"), looks := true }, kinds := [], alts := [], laidByText := true, laidKinds := [.data, .data, .data, .sentinel, .sentinel], laidTests := true, laidLooks := .later }
def EvalPathsCardSaid : Prop := Claim7.holds Tryz.pinned (.plain (OpenSpec.ofChange evalPathsSpec)) evalPathsCard

/-- THE TIED CARD OF 'rifflelaw16.EvalRows'. -/
def evalRowsCard : Claim7 := { stood := { row := evalRowsRow, standIns := [], harness := (true, "9bbcd49bed471a6d8965d3df096e4b6aa957339af23ec6fd7dac5f1315be1993"), looks := true }, kinds := [], alts := [], laidByText := true, laidKinds := [.data, .data, .data, .sentinel, .sentinel], laidTests := true, laidLooks := .later }
def EvalRowsCardSaid : Prop := Claim7.holds Tryz.pinned (.plain (OpenSpec.ofChange evalRowsSpec)) evalRowsCard

/-- THE TIED CARD OF 'rifflelaw17.HangFates'. -/
def hangFatesCard : Claim7 := { stood := { row := hangFatesRow, standIns := [], harness := (true, "9bbcd49bed471a6d8965d3df096e4b6aa957339af23ec6fd7dac5f1315be1993"), looks := true }, kinds := [], alts := [], laidByText := true, laidKinds := [.data, .data, .data, .sentinel, .sentinel], laidTests := true, laidLooks := .later }
def HangFatesCardSaid : Prop := Claim7.holds Tryz.pinned (.plain (OpenSpec.ofChange hangFatesSpec)) hangFatesCard

/-- THE TIED CARD OF 'rifflelaw24.ProjectTells'. -/
def projectTellsCard : Claim7 := { stood := { row := projectTellsRow, standIns := [], harness := (true, "9bbcd49bed471a6d8965d3df096e4b6aa957339af23ec6fd7dac5f1315be1993"), looks := true }, kinds := [], alts := [], laidByText := true, laidKinds := [.data, .data, .data, .sentinel, .sentinel], laidTests := true, laidLooks := .later }
def ProjectTellsCardSaid : Prop := Claim7.holds Tryz.pinned (.plain (OpenSpec.ofChange projectTellsSpec)) projectTellsCard

/-- THE TIED CARD OF 'rifflelaw24.ProjectParts'. -/
def projectPartsCard : Claim7 := { stood := { row := projectPartsRow, standIns := [], harness := (true, "9bbcd49bed471a6d8965d3df096e4b6aa957339af23ec6fd7dac5f1315be1993"), looks := true }, kinds := [], alts := [], laidByText := true, laidKinds := [.data, .data, .data, .sentinel, .sentinel], laidTests := true, laidLooks := .later }
def ProjectPartsCardSaid : Prop := Claim7.holds Tryz.pinned (.plain (OpenSpec.ofChange projectPartsSpec)) projectPartsCard

/-- THE TIED CARD OF 'rifflelaw17.HangHits'. -/
def hangHitsCard : Claim7 := { stood := { row := hangHitsRow, standIns := [], harness := (true, "9bbcd49bed471a6d8965d3df096e4b6aa957339af23ec6fd7dac5f1315be1993"), looks := true }, kinds := [], alts := [], laidByText := true, laidKinds := [.data, .data, .data, .sentinel, .sentinel], laidTests := true, laidLooks := .later }
def HangHitsCardSaid : Prop := Claim7.holds Tryz.pinned (.plain (OpenSpec.ofChange hangHitsSpec)) hangHitsCard

/-- THE TIED CARD OF 'rifflelaw23.GaugeKept'. -/
def gaugeKeptCard : Claim7 := { stood := { row := gaugeKeptRow, standIns := [], harness := (true, "9bbcd49bed471a6d8965d3df096e4b6aa957339af23ec6fd7dac5f1315be1993"), looks := true }, kinds := [], alts := [], laidByText := true, laidKinds := [.data, .data, .data, .data, .sentinel, .sentinel], laidTests := true, laidLooks := .later }
def GaugeKeptCardSaid : Prop := Claim7.holds Tryz.pinned (.plain (OpenSpec.ofChange gaugeKeptSpec)) gaugeKeptCard

/-- THE TIED CARD OF 'rifflelaw23.GaugeTells'. -/
def gaugeTellsCard : Claim7 := { stood := { row := gaugeTellsRow, standIns := [], harness := (true, "9bbcd49bed471a6d8965d3df096e4b6aa957339af23ec6fd7dac5f1315be1993"), looks := true }, kinds := [], alts := [], laidByText := true, laidKinds := [.data, .data, .data, .data, .sentinel, .sentinel], laidTests := true, laidLooks := .later }
def GaugeTellsCardSaid : Prop := Claim7.holds Tryz.pinned (.plain (OpenSpec.ofChange gaugeTellsSpec)) gaugeTellsCard

/-- THE TIED CARD OF 'rifflelaw17.HangGrows'. -/
def hangGrowsCard : Claim7 := { stood := { row := hangGrowsRow, standIns := [], harness := (true, "9bbcd49bed471a6d8965d3df096e4b6aa957339af23ec6fd7dac5f1315be1993"), looks := true }, kinds := [], alts := [], laidByText := true, laidKinds := [.data, .data, .data, .data, .sentinel, .sentinel], laidTests := true, laidLooks := .later }
def HangGrowsCardSaid : Prop := Claim7.holds Tryz.pinned (.plain (OpenSpec.ofChange hangGrowsSpec)) hangGrowsCard

/-- THE TIED CARD OF 'rifflelaw17.HangWhole'. -/
def hangWholeCard : Claim7 := { stood := { row := hangWholeRow, standIns := [], harness := (true, "9bbcd49bed471a6d8965d3df096e4b6aa957339af23ec6fd7dac5f1315be1993"), looks := true }, kinds := [], alts := [], laidByText := true, laidKinds := [.data, .data, .data, .data, .sentinel, .sentinel], laidTests := true, laidLooks := .later }
def HangWholeCardSaid : Prop := Claim7.holds Tryz.pinned (.plain (OpenSpec.ofChange hangWholeSpec)) hangWholeCard

/-- THE SECOND FORM's CARD OF 'rifflelaw16.EvalNodes'. -/
def evalNodesUptoCard : Claim7 := { stood := { row := evalNodesUptoRow, standIns := [], harness := (true, "9bbcd49bed471a6d8965d3df096e4b6aa957339af23ec6fd7dac5f1315be1993"), looks := true }, kinds := [], alts := [], laidByText := true, laidKinds := [.data, .data, .data, .sentinel, .sentinel], laidTests := true, laidLooks := .later }
def EvalNodesUptoCardSaid : Prop := Claim7.holds Tryz.pinned (.plain (OpenSpec.upto evalNodesSpec)) evalNodesUptoCard

/-- THE SECOND FORM's CARD OF 'rifflelaw16.EvalPaths'. -/
def evalPathsUptoCard : Claim7 := { stood := { row := evalPathsUptoRow, standIns := [], harness := (true, "9bbcd49bed471a6d8965d3df096e4b6aa957339af23ec6fd7dac5f1315be1993"), looks := true }, kinds := [], alts := [], laidByText := true, laidKinds := [.data, .data, .data, .sentinel, .sentinel], laidTests := true, laidLooks := .later }
def EvalPathsUptoCardSaid : Prop := Claim7.holds Tryz.pinned (.plain (OpenSpec.upto evalPathsSpec)) evalPathsUptoCard

/-- THE SECOND FORM's CARD OF 'rifflelaw16.EvalRows'. -/
def evalRowsUptoCard : Claim7 := { stood := { row := evalRowsUptoRow, standIns := [], harness := (true, "9bbcd49bed471a6d8965d3df096e4b6aa957339af23ec6fd7dac5f1315be1993"), looks := true }, kinds := [], alts := [], laidByText := true, laidKinds := [.data, .data, .data, .sentinel, .sentinel], laidTests := true, laidLooks := .later }
def EvalRowsUptoCardSaid : Prop := Claim7.holds Tryz.pinned (.plain (OpenSpec.upto evalRowsSpec)) evalRowsUptoCard

/-- THE SECOND FORM's CARD OF 'rifflelaw17.HangFates'. -/
def hangFatesUptoCard : Claim7 := { stood := { row := hangFatesUptoRow, standIns := [], harness := (true, "9bbcd49bed471a6d8965d3df096e4b6aa957339af23ec6fd7dac5f1315be1993"), looks := true }, kinds := [], alts := [], laidByText := true, laidKinds := [.data, .data, .data, .sentinel, .sentinel], laidTests := true, laidLooks := .later }
def HangFatesUptoCardSaid : Prop := Claim7.holds Tryz.pinned (.plain (OpenSpec.upto hangFatesSpec)) hangFatesUptoCard

/-- THE SECOND FORM's CARD OF 'rifflelaw24.ProjectTells'. -/
def projectTellsUptoCard : Claim7 := { stood := { row := projectTellsUptoRow, standIns := [], harness := (true, "9bbcd49bed471a6d8965d3df096e4b6aa957339af23ec6fd7dac5f1315be1993"), looks := true }, kinds := [], alts := [], laidByText := true, laidKinds := [.data, .data, .data, .sentinel, .sentinel], laidTests := true, laidLooks := .later }
def ProjectTellsUptoCardSaid : Prop := Claim7.holds Tryz.pinned (.plain (OpenSpec.upto projectTellsSpec)) projectTellsUptoCard

/-- THE SECOND FORM's CARD OF 'rifflelaw24.ProjectParts'. -/
def projectPartsUptoCard : Claim7 := { stood := { row := projectPartsUptoRow, standIns := [], harness := (true, "9bbcd49bed471a6d8965d3df096e4b6aa957339af23ec6fd7dac5f1315be1993"), looks := true }, kinds := [], alts := [], laidByText := true, laidKinds := [.data, .data, .data, .sentinel, .sentinel], laidTests := true, laidLooks := .later }
def ProjectPartsUptoCardSaid : Prop := Claim7.holds Tryz.pinned (.plain (OpenSpec.upto projectPartsSpec)) projectPartsUptoCard

/-- THE SECOND FORM's CARD OF 'rifflelaw17.HangHits'. -/
def hangHitsUptoCard : Claim7 := { stood := { row := hangHitsUptoRow, standIns := [], harness := (true, "9bbcd49bed471a6d8965d3df096e4b6aa957339af23ec6fd7dac5f1315be1993"), looks := true }, kinds := [], alts := [], laidByText := true, laidKinds := [.data, .data, .data, .sentinel, .sentinel], laidTests := true, laidLooks := .later }
def HangHitsUptoCardSaid : Prop := Claim7.holds Tryz.pinned (.plain (OpenSpec.upto hangHitsSpec)) hangHitsUptoCard

/-- THE SECOND FORM's CARD OF 'rifflelaw23.GaugeKept'. -/
def gaugeKeptUptoCard : Claim7 := { stood := { row := gaugeKeptUptoRow, standIns := [], harness := (true, "9bbcd49bed471a6d8965d3df096e4b6aa957339af23ec6fd7dac5f1315be1993"), looks := true }, kinds := [], alts := [], laidByText := true, laidKinds := [.data, .data, .data, .data, .sentinel, .sentinel], laidTests := true, laidLooks := .later }
def GaugeKeptUptoCardSaid : Prop := Claim7.holds Tryz.pinned (.plain (OpenSpec.upto gaugeKeptSpec)) gaugeKeptUptoCard

/-- THE SECOND FORM's CARD OF 'rifflelaw23.GaugeTells'. -/
def gaugeTellsUptoCard : Claim7 := { stood := { row := gaugeTellsUptoRow, standIns := [], harness := (true, "9bbcd49bed471a6d8965d3df096e4b6aa957339af23ec6fd7dac5f1315be1993"), looks := true }, kinds := [], alts := [], laidByText := true, laidKinds := [.data, .data, .data, .data, .sentinel, .sentinel], laidTests := true, laidLooks := .later }
def GaugeTellsUptoCardSaid : Prop := Claim7.holds Tryz.pinned (.plain (OpenSpec.upto gaugeTellsSpec)) gaugeTellsUptoCard

/-- THE SECOND FORM's CARD OF 'rifflelaw17.HangGrows'. -/
def hangGrowsUptoCard : Claim7 := { stood := { row := hangGrowsUptoRow, standIns := [], harness := (true, "9bbcd49bed471a6d8965d3df096e4b6aa957339af23ec6fd7dac5f1315be1993"), looks := true }, kinds := [], alts := [], laidByText := true, laidKinds := [.data, .data, .data, .data, .sentinel, .sentinel], laidTests := true, laidLooks := .later }
def HangGrowsUptoCardSaid : Prop := Claim7.holds Tryz.pinned (.plain (OpenSpec.upto hangGrowsSpec)) hangGrowsUptoCard

/-- THE SECOND FORM's CARD OF 'rifflelaw17.HangWhole'. -/
def hangWholeUptoCard : Claim7 := { stood := { row := hangWholeUptoRow, standIns := [], harness := (true, "9bbcd49bed471a6d8965d3df096e4b6aa957339af23ec6fd7dac5f1315be1993"), looks := true }, kinds := [], alts := [], laidByText := true, laidKinds := [.data, .data, .data, .data, .sentinel, .sentinel], laidTests := true, laidLooks := .later }
def HangWholeUptoCardSaid : Prop := Claim7.holds Tryz.pinned (.plain (OpenSpec.upto hangWholeSpec)) hangWholeUptoCard
end Rows
end Go.Proofs.YtonlbdholdaifaaGreatDoor
