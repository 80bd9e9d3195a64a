/-
  DERIVED. GIVEN WITH THE SEED: THE CARDS: each row of YtnljcdplcloedaaGreatDoorRows.lean that lists a variable, with what it lists TIED to the program's text (the seventh form; the later family's looks); each row that meets fmt, with fmt's text TOLD by the authors' own Lean function (tested against real Go, not proved from fmt's source: count such statements apart). THE CARD IS WHAT COUNTS. Prove the row's statement (the work); the ties are given (YtnljcdplcloedaaGreatDoorTie.lean); close each card by the builder's one call (the guide's Derived/Test/ToyasCard.lean, 'card_holds'). Laid BY PROGRAM, IN A SANDBOX (cutbox-door.mjs). By AI agents, Wed Nov 11 2026. No macro, syntax, notation, axiom, sorry.
-/
import Derived.Test.YtnljcdplcloedaaGreatDoorRows
import GoSem.ClaimSeven
namespace Go.Proofs.YtnljcdplcloedaaGreatDoor
namespace Rows

/-- THE TIED CARD OF 'tarnlaw12.ReconDepths'. -/
def reconDepthsCard : Claim7 := { stood := { row := reconDepthsRow, standIns := [], harness := (true, "833bf87128a6b6673126047520969a4cfc0140c257aee75694157105fa378312"), looks := false }, kinds := [], alts := [], laidByText := true, laidKinds := [.wider, .data], laidTests := true, laidLooks := .later }
def ReconDepthsCardSaid : Prop := Claim7.holds Tryz.pinned (.plain (OpenSpec.ofChange reconDepthsSpec)) reconDepthsCard

/-- THE TIED CARD OF 'tarnlaw12.ReconMemory'. -/
def reconMemoryCard : Claim7 := { stood := { row := reconMemoryRow, standIns := [], harness := (true, "833bf87128a6b6673126047520969a4cfc0140c257aee75694157105fa378312"), looks := false }, kinds := [], alts := [], laidByText := true, laidKinds := [.wider, .data], laidTests := true, laidLooks := .later }
def ReconMemoryCardSaid : Prop := Claim7.holds Tryz.pinned (.plain (OpenSpec.ofChange reconMemorySpec)) reconMemoryCard

/-- THE TIED CARD OF 'tarnlaw13.FluxQuanta'. -/
def fluxQuantaCard : Claim7 := { stood := { row := fluxQuantaRow, standIns := [], harness := (true, "833bf87128a6b6673126047520969a4cfc0140c257aee75694157105fa378312"), looks := false }, kinds := [], alts := [], laidByText := true, laidKinds := [.wider, .data], laidTests := true, laidLooks := .later }
def FluxQuantaCardSaid : Prop := Claim7.holds Tryz.pinned (.plain (OpenSpec.ofChange fluxQuantaSpec)) fluxQuantaCard

/-- THE TIED CARD OF 'tarnlaw13.FluxAll'. -/
def fluxAllCard : Claim7 := { stood := { row := fluxAllRow, standIns := [], harness := (true, "833bf87128a6b6673126047520969a4cfc0140c257aee75694157105fa378312"), looks := false }, kinds := [], alts := [], laidByText := true, laidKinds := [.wider, .data], laidTests := true, laidLooks := .later }
def FluxAllCardSaid : Prop := Claim7.holds Tryz.pinned (.plain (OpenSpec.ofChange fluxAllSpec)) fluxAllCard

/-- THE TIED CARD OF 'tarnlaw13.FluxSigns'. -/
def fluxSignsCard : Claim7 := { stood := { row := fluxSignsRow, standIns := [], harness := (true, "833bf87128a6b6673126047520969a4cfc0140c257aee75694157105fa378312"), looks := false }, kinds := [], alts := [], laidByText := true, laidKinds := [.wider, .data], laidTests := true, laidLooks := .later }
def FluxSignsCardSaid : Prop := Claim7.holds Tryz.pinned (.plain (OpenSpec.ofChange fluxSignsSpec)) fluxSignsCard

/-- THE TIED CARD OF 'tarnlaw13.FluxEdges'. -/
def fluxEdgesCard : Claim7 := { stood := { row := fluxEdgesRow, standIns := [], harness := (true, "833bf87128a6b6673126047520969a4cfc0140c257aee75694157105fa378312"), looks := false }, kinds := [], alts := [], laidByText := true, laidKinds := [.wider, .data], laidTests := true, laidLooks := .later }
def FluxEdgesCardSaid : Prop := Claim7.holds Tryz.pinned (.plain (OpenSpec.ofChange fluxEdgesSpec)) fluxEdgesCard

/-- THE TIED CARD OF 'tarnlaw13.FluxStill'. -/
def fluxStillCard : Claim7 := { stood := { row := fluxStillRow, standIns := [], harness := (true, "833bf87128a6b6673126047520969a4cfc0140c257aee75694157105fa378312"), looks := false }, kinds := [], alts := [], laidByText := true, laidKinds := [.wider, .data], laidTests := true, laidLooks := .later }
def FluxStillCardSaid : Prop := Claim7.holds Tryz.pinned (.plain (OpenSpec.ofChange fluxStillSpec)) fluxStillCard

/-- THE TIED CARD OF 'tarnlaw13.FluxKeeps'. -/
def fluxKeepsCard : Claim7 := { stood := { row := fluxKeepsRow, standIns := [], harness := (true, "833bf87128a6b6673126047520969a4cfc0140c257aee75694157105fa378312"), looks := false }, kinds := [], alts := [], laidByText := true, laidKinds := [.wider, .data], laidTests := true, laidLooks := .later }
def FluxKeepsCardSaid : Prop := Claim7.holds Tryz.pinned (.plain (OpenSpec.ofChange fluxKeepsSpec)) fluxKeepsCard

/-- THE TIED CARD OF 'tarnlaw12.ReconTurned'. -/
def reconTurnedCard : Claim7 := { stood := { row := reconTurnedRow, standIns := [], harness := (true, "833bf87128a6b6673126047520969a4cfc0140c257aee75694157105fa378312"), looks := false }, kinds := [], alts := [], laidByText := true, laidKinds := [.wider, .data], laidTests := true, laidLooks := .later }
def ReconTurnedCardSaid : Prop := Claim7.holds Tryz.pinned (.plain (OpenSpec.ofChange reconTurnedSpec)) reconTurnedCard

/-- THE TIED CARD OF 'tarnlaw20.StatePlans'. -/
def statePlansCard : Claim7 := { stood := { row := statePlansRow, standIns := [], harness := (true, "833bf87128a6b6673126047520969a4cfc0140c257aee75694157105fa378312"), looks := false }, kinds := [], alts := [], laidByText := true, laidKinds := [.wider, .data], laidTests := true, laidLooks := .later }
def StatePlansCardSaid : Prop := Claim7.holds Tryz.pinned (.plain (OpenSpec.ofChange statePlansSpec)) statePlansCard

/-- THE TIED CARD OF 'tarnlaw20.StateChecks'. -/
def stateChecksCard : Claim7 := { stood := { row := stateChecksRow, standIns := [], harness := (true, "833bf87128a6b6673126047520969a4cfc0140c257aee75694157105fa378312"), looks := false }, kinds := [], alts := [], laidByText := true, laidKinds := [.wider, .data], laidTests := true, laidLooks := .later }
def StateChecksCardSaid : Prop := Claim7.holds Tryz.pinned (.plain (OpenSpec.ofChange stateChecksSpec)) stateChecksCard

/-- THE TIED CARD OF 'tarnlaw20.StateSames'. -/
def stateSamesCard : Claim7 := { stood := { row := stateSamesRow, standIns := [], harness := (true, "833bf87128a6b6673126047520969a4cfc0140c257aee75694157105fa378312"), looks := false }, kinds := [], alts := [], laidByText := true, laidKinds := [.wider, .data], laidTests := true, laidLooks := .later }
def StateSamesCardSaid : Prop := Claim7.holds Tryz.pinned (.plain (OpenSpec.ofChange stateSamesSpec)) stateSamesCard

/-- THE TIED CARD OF 'tarnlaw20.StateTurned'. -/
def stateTurnedCard : Claim7 := { stood := { row := stateTurnedRow, standIns := [], harness := (true, "833bf87128a6b6673126047520969a4cfc0140c257aee75694157105fa378312"), looks := false }, kinds := [], alts := [], laidByText := true, laidKinds := [.wider, .data], laidTests := true, laidLooks := .later }
def StateTurnedCardSaid : Prop := Claim7.holds Tryz.pinned (.plain (OpenSpec.ofChange stateTurnedSpec)) stateTurnedCard

/-- THE TIED CARD OF 'tarnlaw20.StateGroup'. -/
def stateGroupCard : Claim7 := { stood := { row := stateGroupRow, standIns := [], harness := (true, "833bf87128a6b6673126047520969a4cfc0140c257aee75694157105fa378312"), looks := false }, kinds := [], alts := [], laidByText := true, laidKinds := [.wider, .data], laidTests := true, laidLooks := .later }
def StateGroupCardSaid : Prop := Claim7.holds Tryz.pinned (.plain (OpenSpec.ofChange stateGroupSpec)) stateGroupCard

/-- THE TIED CARD OF 'tarnlaw20.StateMoves'. -/
def stateMovesCard : Claim7 := { stood := { row := stateMovesRow, standIns := [], harness := (true, "833bf87128a6b6673126047520969a4cfc0140c257aee75694157105fa378312"), looks := false }, kinds := [], alts := [], laidByText := true, laidKinds := [.wider, .data], laidTests := true, laidLooks := .later }
def StateMovesCardSaid : Prop := Claim7.holds Tryz.pinned (.plain (OpenSpec.ofChange stateMovesSpec)) stateMovesCard

/-- THE TIED CARD OF 'tarnlaw20.StateLakes'. -/
def stateLakesCard : Claim7 := { stood := { row := stateLakesRow, standIns := [], harness := (true, "833bf87128a6b6673126047520969a4cfc0140c257aee75694157105fa378312"), looks := false }, kinds := [], alts := [], laidByText := true, laidKinds := [.wider, .data], laidTests := true, laidLooks := .later }
def StateLakesCardSaid : Prop := Claim7.holds Tryz.pinned (.plain (OpenSpec.ofChange stateLakesSpec)) stateLakesCard

/-- THE TIED CARD OF 'tarnlaw20.StateKeeps'. -/
def stateKeepsCard : Claim7 := { stood := { row := stateKeepsRow, standIns := [], harness := (true, "833bf87128a6b6673126047520969a4cfc0140c257aee75694157105fa378312"), looks := false }, kinds := [], alts := [], laidByText := true, laidKinds := [.wider, .data], laidTests := true, laidLooks := .later }
def StateKeepsCardSaid : Prop := Claim7.holds Tryz.pinned (.plain (OpenSpec.ofChange stateKeepsSpec)) stateKeepsCard

/-- THE TIED CARD OF 'tarnlaw22.SplitEnough'. -/
def splitEnoughCard : Claim7 := { stood := { row := splitEnoughRow, standIns := [], harness := (true, "833bf87128a6b6673126047520969a4cfc0140c257aee75694157105fa378312"), looks := false }, kinds := [], alts := [], laidByText := true, laidKinds := [.wider, .data], laidTests := true, laidLooks := .later }
def SplitEnoughCardSaid : Prop := Claim7.holds Tryz.pinned (.plain (OpenSpec.ofChange splitEnoughSpec)) splitEnoughCard

/-- THE TIED CARD OF 'tarnlaw26.CheckReports'. -/
def checkReportsCard : Claim7 := { stood := { row := checkReportsRow, standIns := [], harness := (true, "833bf87128a6b6673126047520969a4cfc0140c257aee75694157105fa378312"), looks := false }, kinds := [], alts := [], laidByText := true, laidKinds := [.wider, .data], laidTests := true, laidLooks := .later }
def CheckReportsCardSaid : Prop := Claim7.holds Tryz.pinned (.plain (OpenSpec.ofChange checkReportsSpec)) checkReportsCard

/-- THE TIED CARD OF 'tarnlaw26.CheckRests'. -/
def checkRestsCard : Claim7 := { stood := { row := checkRestsRow, standIns := [], harness := (true, "833bf87128a6b6673126047520969a4cfc0140c257aee75694157105fa378312"), looks := false }, kinds := [], alts := [], laidByText := true, laidKinds := [.wider, .data], laidTests := true, laidLooks := .later }
def CheckRestsCardSaid : Prop := Claim7.holds Tryz.pinned (.plain (OpenSpec.ofChange checkRestsSpec)) checkRestsCard

/-- THE TIED CARD OF 'tarnlaw26.CheckKept'. -/
def checkKeptCard : Claim7 := { stood := { row := checkKeptRow, standIns := [], harness := (true, "833bf87128a6b6673126047520969a4cfc0140c257aee75694157105fa378312"), looks := false }, kinds := [], alts := [], laidByText := true, laidKinds := [.wider, .data], laidTests := true, laidLooks := .later }
def CheckKeptCardSaid : Prop := Claim7.holds Tryz.pinned (.plain (OpenSpec.ofChange checkKeptSpec)) checkKeptCard

/-- THE TIED CARD OF 'tarnlaw26.CheckMoved'. -/
def checkMovedCard : Claim7 := { stood := { row := checkMovedRow, standIns := [], harness := (true, "833bf87128a6b6673126047520969a4cfc0140c257aee75694157105fa378312"), looks := false }, kinds := [], alts := [], laidByText := true, laidKinds := [.wider, .data], laidTests := true, laidLooks := .later }
def CheckMovedCardSaid : Prop := Claim7.holds Tryz.pinned (.plain (OpenSpec.ofChange checkMovedSpec)) checkMovedCard

/-- THE TIED CARD OF 'tarnlaw26.CheckKeeps'. -/
def checkKeepsCard : Claim7 := { stood := { row := checkKeepsRow, standIns := [], harness := (true, "833bf87128a6b6673126047520969a4cfc0140c257aee75694157105fa378312"), looks := false }, kinds := [], alts := [], laidByText := true, laidKinds := [.wider, .data], laidTests := true, laidLooks := .later }
def CheckKeepsCardSaid : Prop := Claim7.holds Tryz.pinned (.plain (OpenSpec.ofChange checkKeepsSpec)) checkKeepsCard

/-- THE TIED CARD OF 'tarnlaw26.CheckLakes'. -/
def checkLakesCard : Claim7 := { stood := { row := checkLakesRow, standIns := [], harness := (true, "833bf87128a6b6673126047520969a4cfc0140c257aee75694157105fa378312"), looks := false }, kinds := [], alts := [], laidByText := true, laidKinds := [.wider, .data], laidTests := true, laidLooks := .later }
def CheckLakesCardSaid : Prop := Claim7.holds Tryz.pinned (.plain (OpenSpec.ofChange checkLakesSpec)) checkLakesCard

/-- THE TIED CARD OF 'tarnlaw26.CheckTurned'. -/
def checkTurnedCard : Claim7 := { stood := { row := checkTurnedRow, standIns := [], harness := (true, "833bf87128a6b6673126047520969a4cfc0140c257aee75694157105fa378312"), looks := false }, kinds := [], alts := [], laidByText := true, laidKinds := [.wider, .data], laidTests := true, laidLooks := .later }
def CheckTurnedCardSaid : Prop := Claim7.holds Tryz.pinned (.plain (OpenSpec.ofChange checkTurnedSpec)) checkTurnedCard

/-- THE SECOND FORM's CARD OF 'tarnlaw12.ReconDepths'. -/
def reconDepthsUptoCard : Claim7 := { stood := { row := reconDepthsUptoRow, standIns := [], harness := (true, "833bf87128a6b6673126047520969a4cfc0140c257aee75694157105fa378312"), looks := false }, kinds := [], alts := [], laidByText := true, laidKinds := [.wider, .data], laidTests := true, laidLooks := .later }
def ReconDepthsUptoCardSaid : Prop := Claim7.holds Tryz.pinned (.plain (OpenSpec.upto reconDepthsSpec)) reconDepthsUptoCard

/-- THE SECOND FORM's CARD OF 'tarnlaw12.ReconMemory'. -/
def reconMemoryUptoCard : Claim7 := { stood := { row := reconMemoryUptoRow, standIns := [], harness := (true, "833bf87128a6b6673126047520969a4cfc0140c257aee75694157105fa378312"), looks := false }, kinds := [], alts := [], laidByText := true, laidKinds := [.wider, .data], laidTests := true, laidLooks := .later }
def ReconMemoryUptoCardSaid : Prop := Claim7.holds Tryz.pinned (.plain (OpenSpec.upto reconMemorySpec)) reconMemoryUptoCard

/-- THE SECOND FORM's CARD OF 'tarnlaw13.FluxQuanta'. -/
def fluxQuantaUptoCard : Claim7 := { stood := { row := fluxQuantaUptoRow, standIns := [], harness := (true, "833bf87128a6b6673126047520969a4cfc0140c257aee75694157105fa378312"), looks := false }, kinds := [], alts := [], laidByText := true, laidKinds := [.wider, .data], laidTests := true, laidLooks := .later }
def FluxQuantaUptoCardSaid : Prop := Claim7.holds Tryz.pinned (.plain (OpenSpec.upto fluxQuantaSpec)) fluxQuantaUptoCard

/-- THE SECOND FORM's CARD OF 'tarnlaw13.FluxAll'. -/
def fluxAllUptoCard : Claim7 := { stood := { row := fluxAllUptoRow, standIns := [], harness := (true, "833bf87128a6b6673126047520969a4cfc0140c257aee75694157105fa378312"), looks := false }, kinds := [], alts := [], laidByText := true, laidKinds := [.wider, .data], laidTests := true, laidLooks := .later }
def FluxAllUptoCardSaid : Prop := Claim7.holds Tryz.pinned (.plain (OpenSpec.upto fluxAllSpec)) fluxAllUptoCard

/-- THE SECOND FORM's CARD OF 'tarnlaw13.FluxSigns'. -/
def fluxSignsUptoCard : Claim7 := { stood := { row := fluxSignsUptoRow, standIns := [], harness := (true, "833bf87128a6b6673126047520969a4cfc0140c257aee75694157105fa378312"), looks := false }, kinds := [], alts := [], laidByText := true, laidKinds := [.wider, .data], laidTests := true, laidLooks := .later }
def FluxSignsUptoCardSaid : Prop := Claim7.holds Tryz.pinned (.plain (OpenSpec.upto fluxSignsSpec)) fluxSignsUptoCard

/-- THE SECOND FORM's CARD OF 'tarnlaw13.FluxEdges'. -/
def fluxEdgesUptoCard : Claim7 := { stood := { row := fluxEdgesUptoRow, standIns := [], harness := (true, "833bf87128a6b6673126047520969a4cfc0140c257aee75694157105fa378312"), looks := false }, kinds := [], alts := [], laidByText := true, laidKinds := [.wider, .data], laidTests := true, laidLooks := .later }
def FluxEdgesUptoCardSaid : Prop := Claim7.holds Tryz.pinned (.plain (OpenSpec.upto fluxEdgesSpec)) fluxEdgesUptoCard

/-- THE SECOND FORM's CARD OF 'tarnlaw13.FluxStill'. -/
def fluxStillUptoCard : Claim7 := { stood := { row := fluxStillUptoRow, standIns := [], harness := (true, "833bf87128a6b6673126047520969a4cfc0140c257aee75694157105fa378312"), looks := false }, kinds := [], alts := [], laidByText := true, laidKinds := [.wider, .data], laidTests := true, laidLooks := .later }
def FluxStillUptoCardSaid : Prop := Claim7.holds Tryz.pinned (.plain (OpenSpec.upto fluxStillSpec)) fluxStillUptoCard

/-- THE SECOND FORM's CARD OF 'tarnlaw13.FluxKeeps'. -/
def fluxKeepsUptoCard : Claim7 := { stood := { row := fluxKeepsUptoRow, standIns := [], harness := (true, "833bf87128a6b6673126047520969a4cfc0140c257aee75694157105fa378312"), looks := false }, kinds := [], alts := [], laidByText := true, laidKinds := [.wider, .data], laidTests := true, laidLooks := .later }
def FluxKeepsUptoCardSaid : Prop := Claim7.holds Tryz.pinned (.plain (OpenSpec.upto fluxKeepsSpec)) fluxKeepsUptoCard

/-- THE SECOND FORM's CARD OF 'tarnlaw12.ReconTurned'. -/
def reconTurnedUptoCard : Claim7 := { stood := { row := reconTurnedUptoRow, standIns := [], harness := (true, "833bf87128a6b6673126047520969a4cfc0140c257aee75694157105fa378312"), looks := false }, kinds := [], alts := [], laidByText := true, laidKinds := [.wider, .data], laidTests := true, laidLooks := .later }
def ReconTurnedUptoCardSaid : Prop := Claim7.holds Tryz.pinned (.plain (OpenSpec.upto reconTurnedSpec)) reconTurnedUptoCard

/-- THE SECOND FORM's CARD OF 'tarnlaw20.StatePlans'. -/
def statePlansUptoCard : Claim7 := { stood := { row := statePlansUptoRow, standIns := [], harness := (true, "833bf87128a6b6673126047520969a4cfc0140c257aee75694157105fa378312"), looks := false }, kinds := [], alts := [], laidByText := true, laidKinds := [.wider, .data], laidTests := true, laidLooks := .later }
def StatePlansUptoCardSaid : Prop := Claim7.holds Tryz.pinned (.plain (OpenSpec.upto statePlansSpec)) statePlansUptoCard

/-- THE SECOND FORM's CARD OF 'tarnlaw20.StateChecks'. -/
def stateChecksUptoCard : Claim7 := { stood := { row := stateChecksUptoRow, standIns := [], harness := (true, "833bf87128a6b6673126047520969a4cfc0140c257aee75694157105fa378312"), looks := false }, kinds := [], alts := [], laidByText := true, laidKinds := [.wider, .data], laidTests := true, laidLooks := .later }
def StateChecksUptoCardSaid : Prop := Claim7.holds Tryz.pinned (.plain (OpenSpec.upto stateChecksSpec)) stateChecksUptoCard

/-- THE SECOND FORM's CARD OF 'tarnlaw20.StateSames'. -/
def stateSamesUptoCard : Claim7 := { stood := { row := stateSamesUptoRow, standIns := [], harness := (true, "833bf87128a6b6673126047520969a4cfc0140c257aee75694157105fa378312"), looks := false }, kinds := [], alts := [], laidByText := true, laidKinds := [.wider, .data], laidTests := true, laidLooks := .later }
def StateSamesUptoCardSaid : Prop := Claim7.holds Tryz.pinned (.plain (OpenSpec.upto stateSamesSpec)) stateSamesUptoCard

/-- THE SECOND FORM's CARD OF 'tarnlaw20.StateTurned'. -/
def stateTurnedUptoCard : Claim7 := { stood := { row := stateTurnedUptoRow, standIns := [], harness := (true, "833bf87128a6b6673126047520969a4cfc0140c257aee75694157105fa378312"), looks := false }, kinds := [], alts := [], laidByText := true, laidKinds := [.wider, .data], laidTests := true, laidLooks := .later }
def StateTurnedUptoCardSaid : Prop := Claim7.holds Tryz.pinned (.plain (OpenSpec.upto stateTurnedSpec)) stateTurnedUptoCard

/-- THE SECOND FORM's CARD OF 'tarnlaw20.StateGroup'. -/
def stateGroupUptoCard : Claim7 := { stood := { row := stateGroupUptoRow, standIns := [], harness := (true, "833bf87128a6b6673126047520969a4cfc0140c257aee75694157105fa378312"), looks := false }, kinds := [], alts := [], laidByText := true, laidKinds := [.wider, .data], laidTests := true, laidLooks := .later }
def StateGroupUptoCardSaid : Prop := Claim7.holds Tryz.pinned (.plain (OpenSpec.upto stateGroupSpec)) stateGroupUptoCard

/-- THE SECOND FORM's CARD OF 'tarnlaw20.StateMoves'. -/
def stateMovesUptoCard : Claim7 := { stood := { row := stateMovesUptoRow, standIns := [], harness := (true, "833bf87128a6b6673126047520969a4cfc0140c257aee75694157105fa378312"), looks := false }, kinds := [], alts := [], laidByText := true, laidKinds := [.wider, .data], laidTests := true, laidLooks := .later }
def StateMovesUptoCardSaid : Prop := Claim7.holds Tryz.pinned (.plain (OpenSpec.upto stateMovesSpec)) stateMovesUptoCard

/-- THE SECOND FORM's CARD OF 'tarnlaw20.StateLakes'. -/
def stateLakesUptoCard : Claim7 := { stood := { row := stateLakesUptoRow, standIns := [], harness := (true, "833bf87128a6b6673126047520969a4cfc0140c257aee75694157105fa378312"), looks := false }, kinds := [], alts := [], laidByText := true, laidKinds := [.wider, .data], laidTests := true, laidLooks := .later }
def StateLakesUptoCardSaid : Prop := Claim7.holds Tryz.pinned (.plain (OpenSpec.upto stateLakesSpec)) stateLakesUptoCard

/-- THE SECOND FORM's CARD OF 'tarnlaw20.StateKeeps'. -/
def stateKeepsUptoCard : Claim7 := { stood := { row := stateKeepsUptoRow, standIns := [], harness := (true, "833bf87128a6b6673126047520969a4cfc0140c257aee75694157105fa378312"), looks := false }, kinds := [], alts := [], laidByText := true, laidKinds := [.wider, .data], laidTests := true, laidLooks := .later }
def StateKeepsUptoCardSaid : Prop := Claim7.holds Tryz.pinned (.plain (OpenSpec.upto stateKeepsSpec)) stateKeepsUptoCard

/-- THE SECOND FORM's CARD OF 'tarnlaw22.SplitEnough'. -/
def splitEnoughUptoCard : Claim7 := { stood := { row := splitEnoughUptoRow, standIns := [], harness := (true, "833bf87128a6b6673126047520969a4cfc0140c257aee75694157105fa378312"), looks := false }, kinds := [], alts := [], laidByText := true, laidKinds := [.wider, .data], laidTests := true, laidLooks := .later }
def SplitEnoughUptoCardSaid : Prop := Claim7.holds Tryz.pinned (.plain (OpenSpec.upto splitEnoughSpec)) splitEnoughUptoCard

/-- THE SECOND FORM's CARD OF 'tarnlaw26.CheckReports'. -/
def checkReportsUptoCard : Claim7 := { stood := { row := checkReportsUptoRow, standIns := [], harness := (true, "833bf87128a6b6673126047520969a4cfc0140c257aee75694157105fa378312"), looks := false }, kinds := [], alts := [], laidByText := true, laidKinds := [.wider, .data], laidTests := true, laidLooks := .later }
def CheckReportsUptoCardSaid : Prop := Claim7.holds Tryz.pinned (.plain (OpenSpec.upto checkReportsSpec)) checkReportsUptoCard

/-- THE SECOND FORM's CARD OF 'tarnlaw26.CheckRests'. -/
def checkRestsUptoCard : Claim7 := { stood := { row := checkRestsUptoRow, standIns := [], harness := (true, "833bf87128a6b6673126047520969a4cfc0140c257aee75694157105fa378312"), looks := false }, kinds := [], alts := [], laidByText := true, laidKinds := [.wider, .data], laidTests := true, laidLooks := .later }
def CheckRestsUptoCardSaid : Prop := Claim7.holds Tryz.pinned (.plain (OpenSpec.upto checkRestsSpec)) checkRestsUptoCard

/-- THE SECOND FORM's CARD OF 'tarnlaw26.CheckKept'. -/
def checkKeptUptoCard : Claim7 := { stood := { row := checkKeptUptoRow, standIns := [], harness := (true, "833bf87128a6b6673126047520969a4cfc0140c257aee75694157105fa378312"), looks := false }, kinds := [], alts := [], laidByText := true, laidKinds := [.wider, .data], laidTests := true, laidLooks := .later }
def CheckKeptUptoCardSaid : Prop := Claim7.holds Tryz.pinned (.plain (OpenSpec.upto checkKeptSpec)) checkKeptUptoCard

/-- THE SECOND FORM's CARD OF 'tarnlaw26.CheckMoved'. -/
def checkMovedUptoCard : Claim7 := { stood := { row := checkMovedUptoRow, standIns := [], harness := (true, "833bf87128a6b6673126047520969a4cfc0140c257aee75694157105fa378312"), looks := false }, kinds := [], alts := [], laidByText := true, laidKinds := [.wider, .data], laidTests := true, laidLooks := .later }
def CheckMovedUptoCardSaid : Prop := Claim7.holds Tryz.pinned (.plain (OpenSpec.upto checkMovedSpec)) checkMovedUptoCard

/-- THE SECOND FORM's CARD OF 'tarnlaw26.CheckKeeps'. -/
def checkKeepsUptoCard : Claim7 := { stood := { row := checkKeepsUptoRow, standIns := [], harness := (true, "833bf87128a6b6673126047520969a4cfc0140c257aee75694157105fa378312"), looks := false }, kinds := [], alts := [], laidByText := true, laidKinds := [.wider, .data], laidTests := true, laidLooks := .later }
def CheckKeepsUptoCardSaid : Prop := Claim7.holds Tryz.pinned (.plain (OpenSpec.upto checkKeepsSpec)) checkKeepsUptoCard

/-- THE SECOND FORM's CARD OF 'tarnlaw26.CheckLakes'. -/
def checkLakesUptoCard : Claim7 := { stood := { row := checkLakesUptoRow, standIns := [], harness := (true, "833bf87128a6b6673126047520969a4cfc0140c257aee75694157105fa378312"), looks := false }, kinds := [], alts := [], laidByText := true, laidKinds := [.wider, .data], laidTests := true, laidLooks := .later }
def CheckLakesUptoCardSaid : Prop := Claim7.holds Tryz.pinned (.plain (OpenSpec.upto checkLakesSpec)) checkLakesUptoCard

/-- THE SECOND FORM's CARD OF 'tarnlaw26.CheckTurned'. -/
def checkTurnedUptoCard : Claim7 := { stood := { row := checkTurnedUptoRow, standIns := [], harness := (true, "833bf87128a6b6673126047520969a4cfc0140c257aee75694157105fa378312"), looks := false }, kinds := [], alts := [], laidByText := true, laidKinds := [.wider, .data], laidTests := true, laidLooks := .later }
def CheckTurnedUptoCardSaid : Prop := Claim7.holds Tryz.pinned (.plain (OpenSpec.upto checkTurnedSpec)) checkTurnedUptoCard
end Rows
end Go.Proofs.YtnljcdplcloedaaGreatDoor
