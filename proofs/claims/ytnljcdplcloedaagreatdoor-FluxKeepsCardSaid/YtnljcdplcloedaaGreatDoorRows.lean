/-
  NARROWER THAN 'FOR EVERY INPUT', by the rows' own cells (each row's printed sentence says how): ReconDepths: laid · ReconMemory: laid · FluxQuanta: laid · FluxAll: laid · FluxSigns: laid · FluxEdges: laid · FluxStill: laid · FluxKeeps: laid · ReconTurned: laid · StatePlans: laid · StateChecks: laid · StateSames: laid · StateTurned: laid · StateGroup: laid · StateMoves: laid · StateLakes: laid · StateKeeps: laid · SplitEnough: laid · CheckReports: laid · CheckRests: laid · CheckKept: laid · CheckMoved: laid · CheckKeeps: laid · CheckLakes: laid · CheckTurned: laid.
  DERIVED. THE GIVEN ROWS OF THIS SEAT. 25 by the template 'for every input the law returns true; each argument reads behind the call as it read before'; 0 by the template 'total and deterministic' (their statements: YtnljcdplcloedaaGreatDoorTotals.lean).
  GIVEN WITH THE SEED: the statements are not yours to turn. If you find one false, say at which input.
  Laid BY PROGRAM, IN A SANDBOX (cutbox-rows.mjs): the forced cells as the released guide's own fill.sh prints them over the translation c59e0811f62a76ad… (all of the seat's roots in one cut). By AI agents, Wed Nov 11 2026. No macro, syntax, notation, axiom, sorry.
-/
import Derived.Test.YtnljcdplcloedaaGreatDoorChecked
import GoSem.Claim
import GoSem.ClaimJoined
import GoSem.ClaimMapViews
import Derived.JoinedTies
import Derived.KernelRfl
namespace Go.Proofs.YtnljcdplcloedaaGreatDoor
/- THE CELL 'sum', in the pinned program and in every row, IS THE sha256 OF THE DUMP (.gsa) THAT YtnljcdplcloedaaGreatDoorProg.lean LOADS. Nothing in Lean hashes anything: it is a label: what it is worth is what the hold of that sum in a sandbox is worth. -/
noncomputable def Tryz.pinned : Pinned := { name := "ytnljcdplcloedaagreatdoor", sum := "c59e0811f62a76ad284a8596191c48dcbf8223d379b5fcdf8b9a78bcd1f28fa3", checked := Tryz.checked }
namespace Rows
def none {H : Type} : Left H := { results := [], args := [] }

/- WHAT THE LISTED PACKAGE-LEVEL VARIABLES READ AS WHEN THE CALL BEGINS. Each datum BY PROGRAM (the guide's laid-datum.mjs) off the statement by which the dump's own 'gosem.cut.vars' lays the variable. In a bare row this is a premise. The card (YtnljcdplcloedaaGreatDoorCards.lean) ties it to the program's text. -/
def laid_tarn_cube_frames {H : Type} : DataW H := .agg [.agg [.agg [.lit (.int .i64 1), .lit (.int .i64 0), .lit (.int .i64 0)], .agg [.lit (.int .i64 0), .lit (.int .i64 1), .lit (.int .i64 0)], .agg [.lit (.int .i64 0), .lit (.int .i64 0), .lit (.int .i64 1)]], .agg [.agg [.lit (.int .i64 0), .lit (.int .i64 1), .lit (.int .i64 0)], .agg [.lit (.int .i64 (-1)), .lit (.int .i64 0), .lit (.int .i64 0)], .agg [.lit (.int .i64 0), .lit (.int .i64 0), .lit (.int .i64 1)]], .agg [.agg [.lit (.int .i64 (-1)), .lit (.int .i64 0), .lit (.int .i64 0)], .agg [.lit (.int .i64 0), .lit (.int .i64 (-1)), .lit (.int .i64 0)], .agg [.lit (.int .i64 0), .lit (.int .i64 0), .lit (.int .i64 1)]], .agg [.agg [.lit (.int .i64 0), .lit (.int .i64 (-1)), .lit (.int .i64 0)], .agg [.lit (.int .i64 1), .lit (.int .i64 0), .lit (.int .i64 0)], .agg [.lit (.int .i64 0), .lit (.int .i64 0), .lit (.int .i64 1)]], .agg [.agg [.lit (.int .i64 0), .lit (.int .i64 0), .lit (.int .i64 1)], .agg [.lit (.int .i64 0), .lit (.int .i64 1), .lit (.int .i64 0)], .agg [.lit (.int .i64 (-1)), .lit (.int .i64 0), .lit (.int .i64 0)]], .agg [.agg [.lit (.int .i64 0), .lit (.int .i64 0), .lit (.int .i64 (-1))], .agg [.lit (.int .i64 0), .lit (.int .i64 1), .lit (.int .i64 0)], .agg [.lit (.int .i64 1), .lit (.int .i64 0), .lit (.int .i64 0)]]]
def laid_tarn_geom_frames {H : Type} : DataW H := .agg [.agg [.agg [.lit (.int .i64 1), .lit (.int .i64 0), .lit (.int .i64 0)], .agg [.lit (.int .i64 0), .lit (.int .i64 1), .lit (.int .i64 0)], .agg [.lit (.int .i64 0), .lit (.int .i64 0), .lit (.int .i64 1)]], .agg [.agg [.lit (.int .i64 0), .lit (.int .i64 1), .lit (.int .i64 0)], .agg [.lit (.int .i64 (-1)), .lit (.int .i64 0), .lit (.int .i64 0)], .agg [.lit (.int .i64 0), .lit (.int .i64 0), .lit (.int .i64 1)]], .agg [.agg [.lit (.int .i64 (-1)), .lit (.int .i64 0), .lit (.int .i64 0)], .agg [.lit (.int .i64 0), .lit (.int .i64 (-1)), .lit (.int .i64 0)], .agg [.lit (.int .i64 0), .lit (.int .i64 0), .lit (.int .i64 1)]], .agg [.agg [.lit (.int .i64 0), .lit (.int .i64 (-1)), .lit (.int .i64 0)], .agg [.lit (.int .i64 1), .lit (.int .i64 0), .lit (.int .i64 0)], .agg [.lit (.int .i64 0), .lit (.int .i64 0), .lit (.int .i64 1)]], .agg [.agg [.lit (.int .i64 0), .lit (.int .i64 0), .lit (.int .i64 1)], .agg [.lit (.int .i64 0), .lit (.int .i64 1), .lit (.int .i64 0)], .agg [.lit (.int .i64 (-1)), .lit (.int .i64 0), .lit (.int .i64 0)]], .agg [.agg [.lit (.int .i64 0), .lit (.int .i64 0), .lit (.int .i64 (-1))], .agg [.lit (.int .i64 0), .lit (.int .i64 1), .lit (.int .i64 0)], .agg [.lit (.int .i64 1), .lit (.int .i64 0), .lit (.int .i64 0)]]]

/-- 'tarnlaw12.ReconDepths': WHATEVER THE INPUT: true; the input reads as it did. -/
def reconDepthsSpec : ChangeSpec := { name := "reconDepths", fn := fun _ => fun
  | [d] => { results := [.lit (.bool true)], args := [d] }
  | _ => none }
def reconDepthsRow : OpenClaim := { program := "ytnljcdplcloedaagreatdoor", sum := "c59e0811f62a76ad284a8596191c48dcbf8223d379b5fcdf8b9a78bcd1f28fa3", func := "tarn/tarnlaw12.ReconDepths", spec := "reconDepths", inPlace := ["math.Float64frombits", "math.Float64bits", "math.sqrt", "math.archFloor", "math.archTrunc"], unfollowed := true, recurses := true, named := ["tarn/cube.frames", "tarn/geom.frames"], plainKeys := false, apart := false, laid := [("tarn/cube.frames", laid_tarn_cube_frames), ("tarn/geom.frames", laid_tarn_geom_frames)] }
def ReconDepthsSaid : Prop := reconDepthsRow.holds Tryz.pinned (OpenSpec.ofChange reconDepthsSpec)

/-- ITS FALSE NEIGHBOUR: 'it returns false'. Refute it at one input. -/
def reconDepthsWrong : ChangeSpec := { name := "reconDepths", fn := fun _ => fun
  | [d] => { results := [.lit (.bool false)], args := [d] }
  | _ => none }
def ReconDepthsWrongFalsely : Prop := reconDepthsRow.holds Tryz.pinned (OpenSpec.ofChange reconDepthsWrong)

/-- 'tarnlaw12.ReconMemory': WHATEVER THE INPUT: true; the input reads as it did. -/
def reconMemorySpec : ChangeSpec := { name := "reconMemory", fn := fun _ => fun
  | [d] => { results := [.lit (.bool true)], args := [d] }
  | _ => none }
def reconMemoryRow : OpenClaim := { program := "ytnljcdplcloedaagreatdoor", sum := "c59e0811f62a76ad284a8596191c48dcbf8223d379b5fcdf8b9a78bcd1f28fa3", func := "tarn/tarnlaw12.ReconMemory", spec := "reconMemory", inPlace := ["math.Float64frombits", "math.Float64bits", "math.sqrt", "math.archFloor", "math.archTrunc"], unfollowed := true, recurses := true, named := ["tarn/cube.frames", "tarn/geom.frames"], plainKeys := false, apart := false, laid := [("tarn/cube.frames", laid_tarn_cube_frames), ("tarn/geom.frames", laid_tarn_geom_frames)] }
def ReconMemorySaid : Prop := reconMemoryRow.holds Tryz.pinned (OpenSpec.ofChange reconMemorySpec)

/-- ITS FALSE NEIGHBOUR: 'it returns false'. Refute it at one input. -/
def reconMemoryWrong : ChangeSpec := { name := "reconMemory", fn := fun _ => fun
  | [d] => { results := [.lit (.bool false)], args := [d] }
  | _ => none }
def ReconMemoryWrongFalsely : Prop := reconMemoryRow.holds Tryz.pinned (OpenSpec.ofChange reconMemoryWrong)

/-- 'tarnlaw13.FluxQuanta': WHATEVER THE INPUT: true; the input reads as it did. -/
def fluxQuantaSpec : ChangeSpec := { name := "fluxQuanta", fn := fun _ => fun
  | [d] => { results := [.lit (.bool true)], args := [d] }
  | _ => none }
def fluxQuantaRow : OpenClaim := { program := "ytnljcdplcloedaagreatdoor", sum := "c59e0811f62a76ad284a8596191c48dcbf8223d379b5fcdf8b9a78bcd1f28fa3", func := "tarn/tarnlaw13.FluxQuanta", spec := "fluxQuanta", inPlace := ["math.Float64frombits", "math.Float64bits", "math.sqrt", "math.archFloor", "math.archTrunc"], unfollowed := true, recurses := true, named := ["tarn/cube.frames", "tarn/geom.frames"], plainKeys := false, apart := false, laid := [("tarn/cube.frames", laid_tarn_cube_frames), ("tarn/geom.frames", laid_tarn_geom_frames)] }
def FluxQuantaSaid : Prop := fluxQuantaRow.holds Tryz.pinned (OpenSpec.ofChange fluxQuantaSpec)

/-- ITS FALSE NEIGHBOUR: 'it returns false'. Refute it at one input. -/
def fluxQuantaWrong : ChangeSpec := { name := "fluxQuanta", fn := fun _ => fun
  | [d] => { results := [.lit (.bool false)], args := [d] }
  | _ => none }
def FluxQuantaWrongFalsely : Prop := fluxQuantaRow.holds Tryz.pinned (OpenSpec.ofChange fluxQuantaWrong)

/-- 'tarnlaw13.FluxAll': WHATEVER THE INPUT: true; the input reads as it did. -/
def fluxAllSpec : ChangeSpec := { name := "fluxAll", fn := fun _ => fun
  | [d1, d2, d3] => { results := [.lit (.bool true)], args := [d1, d2, d3] }
  | _ => none }
def fluxAllRow : OpenClaim := { program := "ytnljcdplcloedaagreatdoor", sum := "c59e0811f62a76ad284a8596191c48dcbf8223d379b5fcdf8b9a78bcd1f28fa3", func := "tarn/tarnlaw13.FluxAll", spec := "fluxAll", inPlace := ["math.Float64frombits", "math.Float64bits", "math.sqrt", "math.archFloor", "math.archTrunc"], unfollowed := true, recurses := true, named := ["tarn/cube.frames", "tarn/geom.frames"], plainKeys := false, apart := false, laid := [("tarn/cube.frames", laid_tarn_cube_frames), ("tarn/geom.frames", laid_tarn_geom_frames)] }
def FluxAllSaid : Prop := fluxAllRow.holds Tryz.pinned (OpenSpec.ofChange fluxAllSpec)

/-- ITS FALSE NEIGHBOUR: 'it returns false'. Refute it at one input. -/
def fluxAllWrong : ChangeSpec := { name := "fluxAll", fn := fun _ => fun
  | [d1, d2, d3] => { results := [.lit (.bool false)], args := [d1, d2, d3] }
  | _ => none }
def FluxAllWrongFalsely : Prop := fluxAllRow.holds Tryz.pinned (OpenSpec.ofChange fluxAllWrong)

/-- 'tarnlaw13.FluxSigns': WHATEVER THE INPUT: true; the input reads as it did. -/
def fluxSignsSpec : ChangeSpec := { name := "fluxSigns", fn := fun _ => fun
  | [d1, d2] => { results := [.lit (.bool true)], args := [d1, d2] }
  | _ => none }
def fluxSignsRow : OpenClaim := { program := "ytnljcdplcloedaagreatdoor", sum := "c59e0811f62a76ad284a8596191c48dcbf8223d379b5fcdf8b9a78bcd1f28fa3", func := "tarn/tarnlaw13.FluxSigns", spec := "fluxSigns", inPlace := ["math.Float64frombits", "math.Float64bits", "math.sqrt", "math.archFloor", "math.archTrunc"], unfollowed := true, recurses := true, named := ["tarn/cube.frames", "tarn/geom.frames"], plainKeys := false, apart := false, laid := [("tarn/cube.frames", laid_tarn_cube_frames), ("tarn/geom.frames", laid_tarn_geom_frames)] }
def FluxSignsSaid : Prop := fluxSignsRow.holds Tryz.pinned (OpenSpec.ofChange fluxSignsSpec)

/-- ITS FALSE NEIGHBOUR: 'it returns false'. Refute it at one input. -/
def fluxSignsWrong : ChangeSpec := { name := "fluxSigns", fn := fun _ => fun
  | [d1, d2] => { results := [.lit (.bool false)], args := [d1, d2] }
  | _ => none }
def FluxSignsWrongFalsely : Prop := fluxSignsRow.holds Tryz.pinned (OpenSpec.ofChange fluxSignsWrong)

/-- 'tarnlaw13.FluxEdges': WHATEVER THE INPUT: true; the input reads as it did. -/
def fluxEdgesSpec : ChangeSpec := { name := "fluxEdges", fn := fun _ => fun
  | [d1, d2, d3, d4, d5] => { results := [.lit (.bool true)], args := [d1, d2, d3, d4, d5] }
  | _ => none }
def fluxEdgesRow : OpenClaim := { program := "ytnljcdplcloedaagreatdoor", sum := "c59e0811f62a76ad284a8596191c48dcbf8223d379b5fcdf8b9a78bcd1f28fa3", func := "tarn/tarnlaw13.FluxEdges", spec := "fluxEdges", inPlace := ["math.Float64frombits", "math.Float64bits", "math.sqrt", "math.archFloor", "math.archTrunc"], unfollowed := true, recurses := true, named := ["tarn/cube.frames", "tarn/geom.frames"], plainKeys := false, apart := false, laid := [("tarn/cube.frames", laid_tarn_cube_frames), ("tarn/geom.frames", laid_tarn_geom_frames)] }
def FluxEdgesSaid : Prop := fluxEdgesRow.holds Tryz.pinned (OpenSpec.ofChange fluxEdgesSpec)

/-- ITS FALSE NEIGHBOUR: 'it returns false'. Refute it at one input. -/
def fluxEdgesWrong : ChangeSpec := { name := "fluxEdges", fn := fun _ => fun
  | [d1, d2, d3, d4, d5] => { results := [.lit (.bool false)], args := [d1, d2, d3, d4, d5] }
  | _ => none }
def FluxEdgesWrongFalsely : Prop := fluxEdgesRow.holds Tryz.pinned (OpenSpec.ofChange fluxEdgesWrong)

/-- 'tarnlaw13.FluxStill': WHATEVER THE INPUT: true; the input reads as it did. -/
def fluxStillSpec : ChangeSpec := { name := "fluxStill", fn := fun _ => fun
  | [d1, d2, d3] => { results := [.lit (.bool true)], args := [d1, d2, d3] }
  | _ => none }
def fluxStillRow : OpenClaim := { program := "ytnljcdplcloedaagreatdoor", sum := "c59e0811f62a76ad284a8596191c48dcbf8223d379b5fcdf8b9a78bcd1f28fa3", func := "tarn/tarnlaw13.FluxStill", spec := "fluxStill", inPlace := ["math.Float64frombits", "math.Float64bits", "math.sqrt", "math.archFloor", "math.archTrunc"], unfollowed := true, recurses := true, named := ["tarn/cube.frames", "tarn/geom.frames"], plainKeys := false, apart := false, laid := [("tarn/cube.frames", laid_tarn_cube_frames), ("tarn/geom.frames", laid_tarn_geom_frames)] }
def FluxStillSaid : Prop := fluxStillRow.holds Tryz.pinned (OpenSpec.ofChange fluxStillSpec)

/-- ITS FALSE NEIGHBOUR: 'it returns false'. Refute it at one input. -/
def fluxStillWrong : ChangeSpec := { name := "fluxStill", fn := fun _ => fun
  | [d1, d2, d3] => { results := [.lit (.bool false)], args := [d1, d2, d3] }
  | _ => none }
def FluxStillWrongFalsely : Prop := fluxStillRow.holds Tryz.pinned (OpenSpec.ofChange fluxStillWrong)

/-- 'tarnlaw13.FluxKeeps': WHATEVER THE INPUT: true; the input reads as it did. -/
def fluxKeepsSpec : ChangeSpec := { name := "fluxKeeps", fn := fun _ => fun
  | [d1, d2, d3] => { results := [.lit (.bool true)], args := [d1, d2, d3] }
  | _ => none }
def fluxKeepsRow : OpenClaim := { program := "ytnljcdplcloedaagreatdoor", sum := "c59e0811f62a76ad284a8596191c48dcbf8223d379b5fcdf8b9a78bcd1f28fa3", func := "tarn/tarnlaw13.FluxKeeps", spec := "fluxKeeps", inPlace := ["math.Float64frombits", "math.Float64bits", "math.sqrt", "math.archFloor", "math.archTrunc"], unfollowed := true, recurses := true, named := ["tarn/cube.frames", "tarn/geom.frames"], plainKeys := false, apart := false, laid := [("tarn/cube.frames", laid_tarn_cube_frames), ("tarn/geom.frames", laid_tarn_geom_frames)] }
def FluxKeepsSaid : Prop := fluxKeepsRow.holds Tryz.pinned (OpenSpec.ofChange fluxKeepsSpec)

/-- ITS FALSE NEIGHBOUR: 'it returns false'. Refute it at one input. -/
def fluxKeepsWrong : ChangeSpec := { name := "fluxKeeps", fn := fun _ => fun
  | [d1, d2, d3] => { results := [.lit (.bool false)], args := [d1, d2, d3] }
  | _ => none }
def FluxKeepsWrongFalsely : Prop := fluxKeepsRow.holds Tryz.pinned (OpenSpec.ofChange fluxKeepsWrong)

/-- 'tarnlaw12.ReconTurned': WHATEVER THE INPUT: true; the input reads as it did. -/
def reconTurnedSpec : ChangeSpec := { name := "reconTurned", fn := fun _ => fun
  | [d1, d2, d3] => { results := [.lit (.bool true)], args := [d1, d2, d3] }
  | _ => none }
def reconTurnedRow : OpenClaim := { program := "ytnljcdplcloedaagreatdoor", sum := "c59e0811f62a76ad284a8596191c48dcbf8223d379b5fcdf8b9a78bcd1f28fa3", func := "tarn/tarnlaw12.ReconTurned", spec := "reconTurned", inPlace := ["math.Float64frombits", "math.Float64bits", "math.sqrt", "math.archFloor", "math.archTrunc"], unfollowed := true, recurses := true, named := ["tarn/cube.frames", "tarn/geom.frames"], plainKeys := false, apart := false, laid := [("tarn/cube.frames", laid_tarn_cube_frames), ("tarn/geom.frames", laid_tarn_geom_frames)] }
def ReconTurnedSaid : Prop := reconTurnedRow.holds Tryz.pinned (OpenSpec.ofChange reconTurnedSpec)

/-- ITS FALSE NEIGHBOUR: 'it returns false'. Refute it at one input. -/
def reconTurnedWrong : ChangeSpec := { name := "reconTurned", fn := fun _ => fun
  | [d1, d2, d3] => { results := [.lit (.bool false)], args := [d1, d2, d3] }
  | _ => none }
def ReconTurnedWrongFalsely : Prop := reconTurnedRow.holds Tryz.pinned (OpenSpec.ofChange reconTurnedWrong)

/-- 'tarnlaw20.StatePlans': WHATEVER THE INPUT: true; the input reads as it did. -/
def statePlansSpec : ChangeSpec := { name := "statePlans", fn := fun _ => fun
  | [d] => { results := [.lit (.bool true)], args := [d] }
  | _ => none }
def statePlansRow : OpenClaim := { program := "ytnljcdplcloedaagreatdoor", sum := "c59e0811f62a76ad284a8596191c48dcbf8223d379b5fcdf8b9a78bcd1f28fa3", func := "tarn/tarnlaw20.StatePlans", spec := "statePlans", inPlace := ["math.Float64bits", "math.Float64frombits", "math.sqrt", "math.archFloor", "math.archTrunc"], unfollowed := true, recurses := true, named := ["tarn/cube.frames", "tarn/geom.frames"], plainKeys := false, apart := false, laid := [("tarn/cube.frames", laid_tarn_cube_frames), ("tarn/geom.frames", laid_tarn_geom_frames)] }
def StatePlansSaid : Prop := statePlansRow.holds Tryz.pinned (OpenSpec.ofChange statePlansSpec)

/-- ITS FALSE NEIGHBOUR: 'it returns false'. Refute it at one input. -/
def statePlansWrong : ChangeSpec := { name := "statePlans", fn := fun _ => fun
  | [d] => { results := [.lit (.bool false)], args := [d] }
  | _ => none }
def StatePlansWrongFalsely : Prop := statePlansRow.holds Tryz.pinned (OpenSpec.ofChange statePlansWrong)

/-- 'tarnlaw20.StateChecks': WHATEVER THE INPUT: true; the input reads as it did. -/
def stateChecksSpec : ChangeSpec := { name := "stateChecks", fn := fun _ => fun
  | [d1, d2] => { results := [.lit (.bool true)], args := [d1, d2] }
  | _ => none }
def stateChecksRow : OpenClaim := { program := "ytnljcdplcloedaagreatdoor", sum := "c59e0811f62a76ad284a8596191c48dcbf8223d379b5fcdf8b9a78bcd1f28fa3", func := "tarn/tarnlaw20.StateChecks", spec := "stateChecks", inPlace := ["math.Float64bits", "math.Float64frombits", "math.sqrt", "math.archFloor", "math.archTrunc"], unfollowed := true, recurses := true, named := ["tarn/cube.frames", "tarn/geom.frames"], plainKeys := false, apart := false, laid := [("tarn/cube.frames", laid_tarn_cube_frames), ("tarn/geom.frames", laid_tarn_geom_frames)] }
def StateChecksSaid : Prop := stateChecksRow.holds Tryz.pinned (OpenSpec.ofChange stateChecksSpec)

/-- ITS FALSE NEIGHBOUR: 'it returns false'. Refute it at one input. -/
def stateChecksWrong : ChangeSpec := { name := "stateChecks", fn := fun _ => fun
  | [d1, d2] => { results := [.lit (.bool false)], args := [d1, d2] }
  | _ => none }
def StateChecksWrongFalsely : Prop := stateChecksRow.holds Tryz.pinned (OpenSpec.ofChange stateChecksWrong)

/-- 'tarnlaw20.StateSames': WHATEVER THE INPUT: true; the input reads as it did. -/
def stateSamesSpec : ChangeSpec := { name := "stateSames", fn := fun _ => fun
  | [d1, d2] => { results := [.lit (.bool true)], args := [d1, d2] }
  | _ => none }
def stateSamesRow : OpenClaim := { program := "ytnljcdplcloedaagreatdoor", sum := "c59e0811f62a76ad284a8596191c48dcbf8223d379b5fcdf8b9a78bcd1f28fa3", func := "tarn/tarnlaw20.StateSames", spec := "stateSames", inPlace := ["math.Float64bits", "math.Float64frombits", "math.sqrt", "math.archFloor", "math.archTrunc"], unfollowed := true, recurses := true, named := ["tarn/cube.frames", "tarn/geom.frames"], plainKeys := false, apart := false, laid := [("tarn/cube.frames", laid_tarn_cube_frames), ("tarn/geom.frames", laid_tarn_geom_frames)] }
def StateSamesSaid : Prop := stateSamesRow.holds Tryz.pinned (OpenSpec.ofChange stateSamesSpec)

/-- ITS FALSE NEIGHBOUR: 'it returns false'. Refute it at one input. -/
def stateSamesWrong : ChangeSpec := { name := "stateSames", fn := fun _ => fun
  | [d1, d2] => { results := [.lit (.bool false)], args := [d1, d2] }
  | _ => none }
def StateSamesWrongFalsely : Prop := stateSamesRow.holds Tryz.pinned (OpenSpec.ofChange stateSamesWrong)

/-- 'tarnlaw20.StateTurned': WHATEVER THE INPUT: true; the input reads as it did. -/
def stateTurnedSpec : ChangeSpec := { name := "stateTurned", fn := fun _ => fun
  | [d1, d2, d3] => { results := [.lit (.bool true)], args := [d1, d2, d3] }
  | _ => none }
def stateTurnedRow : OpenClaim := { program := "ytnljcdplcloedaagreatdoor", sum := "c59e0811f62a76ad284a8596191c48dcbf8223d379b5fcdf8b9a78bcd1f28fa3", func := "tarn/tarnlaw20.StateTurned", spec := "stateTurned", inPlace := ["math.Float64bits", "math.Float64frombits", "math.sqrt", "math.archFloor", "math.archTrunc"], unfollowed := true, recurses := true, named := ["tarn/cube.frames", "tarn/geom.frames"], plainKeys := false, apart := false, laid := [("tarn/cube.frames", laid_tarn_cube_frames), ("tarn/geom.frames", laid_tarn_geom_frames)] }
def StateTurnedSaid : Prop := stateTurnedRow.holds Tryz.pinned (OpenSpec.ofChange stateTurnedSpec)

/-- ITS FALSE NEIGHBOUR: 'it returns false'. Refute it at one input. -/
def stateTurnedWrong : ChangeSpec := { name := "stateTurned", fn := fun _ => fun
  | [d1, d2, d3] => { results := [.lit (.bool false)], args := [d1, d2, d3] }
  | _ => none }
def StateTurnedWrongFalsely : Prop := stateTurnedRow.holds Tryz.pinned (OpenSpec.ofChange stateTurnedWrong)

/-- 'tarnlaw20.StateGroup': WHATEVER THE INPUT: true; the input reads as it did. -/
def stateGroupSpec : ChangeSpec := { name := "stateGroup", fn := fun _ => fun
  | [d1, d2, d3, d4] => { results := [.lit (.bool true)], args := [d1, d2, d3, d4] }
  | _ => none }
def stateGroupRow : OpenClaim := { program := "ytnljcdplcloedaagreatdoor", sum := "c59e0811f62a76ad284a8596191c48dcbf8223d379b5fcdf8b9a78bcd1f28fa3", func := "tarn/tarnlaw20.StateGroup", spec := "stateGroup", inPlace := ["math.Float64bits", "math.Float64frombits", "math.sqrt", "math.archFloor", "math.archTrunc"], unfollowed := true, recurses := true, named := ["tarn/cube.frames", "tarn/geom.frames"], plainKeys := false, apart := false, laid := [("tarn/cube.frames", laid_tarn_cube_frames), ("tarn/geom.frames", laid_tarn_geom_frames)] }
def StateGroupSaid : Prop := stateGroupRow.holds Tryz.pinned (OpenSpec.ofChange stateGroupSpec)

/-- ITS FALSE NEIGHBOUR: 'it returns false'. Refute it at one input. -/
def stateGroupWrong : ChangeSpec := { name := "stateGroup", fn := fun _ => fun
  | [d1, d2, d3, d4] => { results := [.lit (.bool false)], args := [d1, d2, d3, d4] }
  | _ => none }
def StateGroupWrongFalsely : Prop := stateGroupRow.holds Tryz.pinned (OpenSpec.ofChange stateGroupWrong)

/-- 'tarnlaw20.StateMoves': WHATEVER THE INPUT: true; the input reads as it did. -/
def stateMovesSpec : ChangeSpec := { name := "stateMoves", fn := fun _ => fun
  | [d1, d2, d3] => { results := [.lit (.bool true)], args := [d1, d2, d3] }
  | _ => none }
def stateMovesRow : OpenClaim := { program := "ytnljcdplcloedaagreatdoor", sum := "c59e0811f62a76ad284a8596191c48dcbf8223d379b5fcdf8b9a78bcd1f28fa3", func := "tarn/tarnlaw20.StateMoves", spec := "stateMoves", inPlace := ["math.Float64bits", "math.Float64frombits", "math.sqrt", "math.archFloor", "math.archTrunc"], unfollowed := true, recurses := true, named := ["tarn/cube.frames", "tarn/geom.frames"], plainKeys := false, apart := false, laid := [("tarn/cube.frames", laid_tarn_cube_frames), ("tarn/geom.frames", laid_tarn_geom_frames)] }
def StateMovesSaid : Prop := stateMovesRow.holds Tryz.pinned (OpenSpec.ofChange stateMovesSpec)

/-- ITS FALSE NEIGHBOUR: 'it returns false'. Refute it at one input. -/
def stateMovesWrong : ChangeSpec := { name := "stateMoves", fn := fun _ => fun
  | [d1, d2, d3] => { results := [.lit (.bool false)], args := [d1, d2, d3] }
  | _ => none }
def StateMovesWrongFalsely : Prop := stateMovesRow.holds Tryz.pinned (OpenSpec.ofChange stateMovesWrong)

/-- 'tarnlaw20.StateLakes': WHATEVER THE INPUT: true; the input reads as it did. -/
def stateLakesSpec : ChangeSpec := { name := "stateLakes", fn := fun _ => fun
  | [d1, d2, d3] => { results := [.lit (.bool true)], args := [d1, d2, d3] }
  | _ => none }
def stateLakesRow : OpenClaim := { program := "ytnljcdplcloedaagreatdoor", sum := "c59e0811f62a76ad284a8596191c48dcbf8223d379b5fcdf8b9a78bcd1f28fa3", func := "tarn/tarnlaw20.StateLakes", spec := "stateLakes", inPlace := ["math.Float64bits", "math.Float64frombits", "math.sqrt", "math.archFloor", "math.archTrunc"], unfollowed := true, recurses := true, named := ["tarn/cube.frames", "tarn/geom.frames"], plainKeys := false, apart := false, laid := [("tarn/cube.frames", laid_tarn_cube_frames), ("tarn/geom.frames", laid_tarn_geom_frames)] }
def StateLakesSaid : Prop := stateLakesRow.holds Tryz.pinned (OpenSpec.ofChange stateLakesSpec)

/-- ITS FALSE NEIGHBOUR: 'it returns false'. Refute it at one input. -/
def stateLakesWrong : ChangeSpec := { name := "stateLakes", fn := fun _ => fun
  | [d1, d2, d3] => { results := [.lit (.bool false)], args := [d1, d2, d3] }
  | _ => none }
def StateLakesWrongFalsely : Prop := stateLakesRow.holds Tryz.pinned (OpenSpec.ofChange stateLakesWrong)

/-- 'tarnlaw20.StateKeeps': WHATEVER THE INPUT: true; the input reads as it did. -/
def stateKeepsSpec : ChangeSpec := { name := "stateKeeps", fn := fun _ => fun
  | [d1, d2, d3] => { results := [.lit (.bool true)], args := [d1, d2, d3] }
  | _ => none }
def stateKeepsRow : OpenClaim := { program := "ytnljcdplcloedaagreatdoor", sum := "c59e0811f62a76ad284a8596191c48dcbf8223d379b5fcdf8b9a78bcd1f28fa3", func := "tarn/tarnlaw20.StateKeeps", spec := "stateKeeps", inPlace := ["math.Float64bits", "math.Float64frombits", "math.sqrt", "math.archFloor", "math.archTrunc"], unfollowed := true, recurses := true, named := ["tarn/cube.frames", "tarn/geom.frames"], plainKeys := false, apart := false, laid := [("tarn/cube.frames", laid_tarn_cube_frames), ("tarn/geom.frames", laid_tarn_geom_frames)] }
def StateKeepsSaid : Prop := stateKeepsRow.holds Tryz.pinned (OpenSpec.ofChange stateKeepsSpec)

/-- ITS FALSE NEIGHBOUR: 'it returns false'. Refute it at one input. -/
def stateKeepsWrong : ChangeSpec := { name := "stateKeeps", fn := fun _ => fun
  | [d1, d2, d3] => { results := [.lit (.bool false)], args := [d1, d2, d3] }
  | _ => none }
def StateKeepsWrongFalsely : Prop := stateKeepsRow.holds Tryz.pinned (OpenSpec.ofChange stateKeepsWrong)

/-- 'tarnlaw22.SplitEnough': WHATEVER THE INPUT: true; the input reads as it did. -/
def splitEnoughSpec : ChangeSpec := { name := "splitEnough", fn := fun _ => fun
  | [d1, d2, d3, d4, d5] => { results := [.lit (.bool true)], args := [d1, d2, d3, d4, d5] }
  | _ => none }
def splitEnoughRow : OpenClaim := { program := "ytnljcdplcloedaagreatdoor", sum := "c59e0811f62a76ad284a8596191c48dcbf8223d379b5fcdf8b9a78bcd1f28fa3", func := "tarn/tarnlaw22.SplitEnough", spec := "splitEnough", inPlace := ["math.Float64frombits", "math.Float64bits", "math.sqrt", "math.archFloor", "math.archTrunc"], unfollowed := true, recurses := true, named := ["tarn/cube.frames", "tarn/geom.frames"], plainKeys := false, apart := false, laid := [("tarn/cube.frames", laid_tarn_cube_frames), ("tarn/geom.frames", laid_tarn_geom_frames)] }
def SplitEnoughSaid : Prop := splitEnoughRow.holds Tryz.pinned (OpenSpec.ofChange splitEnoughSpec)

/-- ITS FALSE NEIGHBOUR: 'it returns false'. Refute it at one input. -/
def splitEnoughWrong : ChangeSpec := { name := "splitEnough", fn := fun _ => fun
  | [d1, d2, d3, d4, d5] => { results := [.lit (.bool false)], args := [d1, d2, d3, d4, d5] }
  | _ => none }
def SplitEnoughWrongFalsely : Prop := splitEnoughRow.holds Tryz.pinned (OpenSpec.ofChange splitEnoughWrong)

/-- 'tarnlaw26.CheckReports': WHATEVER THE INPUT: true; the input reads as it did. -/
def checkReportsSpec : ChangeSpec := { name := "checkReports", fn := fun _ => fun
  | [d1, d2] => { results := [.lit (.bool true)], args := [d1, d2] }
  | _ => none }
def checkReportsRow : OpenClaim := { program := "ytnljcdplcloedaagreatdoor", sum := "c59e0811f62a76ad284a8596191c48dcbf8223d379b5fcdf8b9a78bcd1f28fa3", func := "tarn/tarnlaw26.CheckReports", spec := "checkReports", inPlace := ["math.Float64bits", "math.Float64frombits", "math.sqrt", "math.archFloor", "math.archTrunc", "math/bits.Sub64", "math/bits.Add64"], unfollowed := true, recurses := true, named := ["tarn/cube.frames", "tarn/geom.frames"], plainKeys := false, apart := false, laid := [("tarn/cube.frames", laid_tarn_cube_frames), ("tarn/geom.frames", laid_tarn_geom_frames)] }
def CheckReportsSaid : Prop := checkReportsRow.holds Tryz.pinned (OpenSpec.ofChange checkReportsSpec)

/-- ITS FALSE NEIGHBOUR: 'it returns false'. Refute it at one input. -/
def checkReportsWrong : ChangeSpec := { name := "checkReports", fn := fun _ => fun
  | [d1, d2] => { results := [.lit (.bool false)], args := [d1, d2] }
  | _ => none }
def CheckReportsWrongFalsely : Prop := checkReportsRow.holds Tryz.pinned (OpenSpec.ofChange checkReportsWrong)

/-- 'tarnlaw26.CheckRests': WHATEVER THE INPUT: true; the input reads as it did. -/
def checkRestsSpec : ChangeSpec := { name := "checkRests", fn := fun _ => fun
  | [d1, d2] => { results := [.lit (.bool true)], args := [d1, d2] }
  | _ => none }
def checkRestsRow : OpenClaim := { program := "ytnljcdplcloedaagreatdoor", sum := "c59e0811f62a76ad284a8596191c48dcbf8223d379b5fcdf8b9a78bcd1f28fa3", func := "tarn/tarnlaw26.CheckRests", spec := "checkRests", inPlace := ["math.Float64bits", "math.Float64frombits", "math.sqrt", "math.archFloor", "math.archTrunc", "math/bits.Sub64", "math/bits.Add64"], unfollowed := true, recurses := true, named := ["tarn/cube.frames", "tarn/geom.frames"], plainKeys := false, apart := false, laid := [("tarn/cube.frames", laid_tarn_cube_frames), ("tarn/geom.frames", laid_tarn_geom_frames)] }
def CheckRestsSaid : Prop := checkRestsRow.holds Tryz.pinned (OpenSpec.ofChange checkRestsSpec)

/-- ITS FALSE NEIGHBOUR: 'it returns false'. Refute it at one input. -/
def checkRestsWrong : ChangeSpec := { name := "checkRests", fn := fun _ => fun
  | [d1, d2] => { results := [.lit (.bool false)], args := [d1, d2] }
  | _ => none }
def CheckRestsWrongFalsely : Prop := checkRestsRow.holds Tryz.pinned (OpenSpec.ofChange checkRestsWrong)

/-- 'tarnlaw26.CheckKept': WHATEVER THE INPUT: true; the input reads as it did. -/
def checkKeptSpec : ChangeSpec := { name := "checkKept", fn := fun _ => fun
  | [d1, d2, d3, d4] => { results := [.lit (.bool true)], args := [d1, d2, d3, d4] }
  | _ => none }
def checkKeptRow : OpenClaim := { program := "ytnljcdplcloedaagreatdoor", sum := "c59e0811f62a76ad284a8596191c48dcbf8223d379b5fcdf8b9a78bcd1f28fa3", func := "tarn/tarnlaw26.CheckKept", spec := "checkKept", inPlace := ["math.Float64bits", "math.Float64frombits", "math.sqrt", "math.archFloor", "math.archTrunc", "math/bits.Sub64", "math/bits.Add64"], unfollowed := true, recurses := true, named := ["tarn/cube.frames", "tarn/geom.frames"], plainKeys := false, apart := false, laid := [("tarn/cube.frames", laid_tarn_cube_frames), ("tarn/geom.frames", laid_tarn_geom_frames)] }
def CheckKeptSaid : Prop := checkKeptRow.holds Tryz.pinned (OpenSpec.ofChange checkKeptSpec)

/-- ITS FALSE NEIGHBOUR: 'it returns false'. Refute it at one input. -/
def checkKeptWrong : ChangeSpec := { name := "checkKept", fn := fun _ => fun
  | [d1, d2, d3, d4] => { results := [.lit (.bool false)], args := [d1, d2, d3, d4] }
  | _ => none }
def CheckKeptWrongFalsely : Prop := checkKeptRow.holds Tryz.pinned (OpenSpec.ofChange checkKeptWrong)

/-- 'tarnlaw26.CheckMoved': WHATEVER THE INPUT: true; the input reads as it did. -/
def checkMovedSpec : ChangeSpec := { name := "checkMoved", fn := fun _ => fun
  | [d1, d2, d3, d4] => { results := [.lit (.bool true)], args := [d1, d2, d3, d4] }
  | _ => none }
def checkMovedRow : OpenClaim := { program := "ytnljcdplcloedaagreatdoor", sum := "c59e0811f62a76ad284a8596191c48dcbf8223d379b5fcdf8b9a78bcd1f28fa3", func := "tarn/tarnlaw26.CheckMoved", spec := "checkMoved", inPlace := ["math.Float64bits", "math.Float64frombits", "math.sqrt", "math.archFloor", "math.archTrunc", "math/bits.Sub64", "math/bits.Add64"], unfollowed := true, recurses := true, named := ["tarn/cube.frames", "tarn/geom.frames"], plainKeys := false, apart := false, laid := [("tarn/cube.frames", laid_tarn_cube_frames), ("tarn/geom.frames", laid_tarn_geom_frames)] }
def CheckMovedSaid : Prop := checkMovedRow.holds Tryz.pinned (OpenSpec.ofChange checkMovedSpec)

/-- ITS FALSE NEIGHBOUR: 'it returns false'. Refute it at one input. -/
def checkMovedWrong : ChangeSpec := { name := "checkMoved", fn := fun _ => fun
  | [d1, d2, d3, d4] => { results := [.lit (.bool false)], args := [d1, d2, d3, d4] }
  | _ => none }
def CheckMovedWrongFalsely : Prop := checkMovedRow.holds Tryz.pinned (OpenSpec.ofChange checkMovedWrong)

/-- 'tarnlaw26.CheckKeeps': WHATEVER THE INPUT: true; the input reads as it did. -/
def checkKeepsSpec : ChangeSpec := { name := "checkKeeps", fn := fun _ => fun
  | [d1, d2] => { results := [.lit (.bool true)], args := [d1, d2] }
  | _ => none }
def checkKeepsRow : OpenClaim := { program := "ytnljcdplcloedaagreatdoor", sum := "c59e0811f62a76ad284a8596191c48dcbf8223d379b5fcdf8b9a78bcd1f28fa3", func := "tarn/tarnlaw26.CheckKeeps", spec := "checkKeeps", inPlace := ["math.Float64bits", "math.Float64frombits", "math.sqrt", "math.archFloor", "math.archTrunc", "math/bits.Sub64", "math/bits.Add64"], unfollowed := true, recurses := true, named := ["tarn/cube.frames", "tarn/geom.frames"], plainKeys := false, apart := false, laid := [("tarn/cube.frames", laid_tarn_cube_frames), ("tarn/geom.frames", laid_tarn_geom_frames)] }
def CheckKeepsSaid : Prop := checkKeepsRow.holds Tryz.pinned (OpenSpec.ofChange checkKeepsSpec)

/-- ITS FALSE NEIGHBOUR: 'it returns false'. Refute it at one input. -/
def checkKeepsWrong : ChangeSpec := { name := "checkKeeps", fn := fun _ => fun
  | [d1, d2] => { results := [.lit (.bool false)], args := [d1, d2] }
  | _ => none }
def CheckKeepsWrongFalsely : Prop := checkKeepsRow.holds Tryz.pinned (OpenSpec.ofChange checkKeepsWrong)

/-- 'tarnlaw26.CheckLakes': WHATEVER THE INPUT: true; the input reads as it did. -/
def checkLakesSpec : ChangeSpec := { name := "checkLakes", fn := fun _ => fun
  | [d1, d2, d3, d4, d5] => { results := [.lit (.bool true)], args := [d1, d2, d3, d4, d5] }
  | _ => none }
def checkLakesRow : OpenClaim := { program := "ytnljcdplcloedaagreatdoor", sum := "c59e0811f62a76ad284a8596191c48dcbf8223d379b5fcdf8b9a78bcd1f28fa3", func := "tarn/tarnlaw26.CheckLakes", spec := "checkLakes", inPlace := ["math.Float64bits", "math.Float64frombits", "math.sqrt", "math.archFloor", "math.archTrunc", "math/bits.Sub64", "math/bits.Add64"], unfollowed := true, recurses := true, named := ["tarn/cube.frames", "tarn/geom.frames"], plainKeys := false, apart := false, laid := [("tarn/cube.frames", laid_tarn_cube_frames), ("tarn/geom.frames", laid_tarn_geom_frames)] }
def CheckLakesSaid : Prop := checkLakesRow.holds Tryz.pinned (OpenSpec.ofChange checkLakesSpec)

/-- ITS FALSE NEIGHBOUR: 'it returns false'. Refute it at one input. -/
def checkLakesWrong : ChangeSpec := { name := "checkLakes", fn := fun _ => fun
  | [d1, d2, d3, d4, d5] => { results := [.lit (.bool false)], args := [d1, d2, d3, d4, d5] }
  | _ => none }
def CheckLakesWrongFalsely : Prop := checkLakesRow.holds Tryz.pinned (OpenSpec.ofChange checkLakesWrong)

/-- 'tarnlaw26.CheckTurned': WHATEVER THE INPUT: true; the input reads as it did. -/
def checkTurnedSpec : ChangeSpec := { name := "checkTurned", fn := fun _ => fun
  | [d1, d2, d3] => { results := [.lit (.bool true)], args := [d1, d2, d3] }
  | _ => none }
def checkTurnedRow : OpenClaim := { program := "ytnljcdplcloedaagreatdoor", sum := "c59e0811f62a76ad284a8596191c48dcbf8223d379b5fcdf8b9a78bcd1f28fa3", func := "tarn/tarnlaw26.CheckTurned", spec := "checkTurned", inPlace := ["math.Float64bits", "math.Float64frombits", "math.sqrt", "math.archFloor", "math.archTrunc", "math/bits.Sub64", "math/bits.Add64"], unfollowed := true, recurses := true, named := ["tarn/cube.frames", "tarn/geom.frames"], plainKeys := false, apart := false, laid := [("tarn/cube.frames", laid_tarn_cube_frames), ("tarn/geom.frames", laid_tarn_geom_frames)] }
def CheckTurnedSaid : Prop := checkTurnedRow.holds Tryz.pinned (OpenSpec.ofChange checkTurnedSpec)

/-- ITS FALSE NEIGHBOUR: 'it returns false'. Refute it at one input. -/
def checkTurnedWrong : ChangeSpec := { name := "checkTurned", fn := fun _ => fun
  | [d1, d2, d3] => { results := [.lit (.bool false)], args := [d1, d2, d3] }
  | _ => none }
def CheckTurnedWrongFalsely : Prop := checkTurnedRow.holds Tryz.pinned (OpenSpec.ofChange checkTurnedWrong)

/- THE SECOND FORM. 'bulk': how many values and letters a reading holds, each counted each time it is reached (what is shared counts as often as it is met; a slice's spare places count too). A statement '..UptoSaid' is the law's where the arguments, and the package variables that the reading takes, are together of bulk at most 1048576: NARROWER than '..Said'. Prove '..Said' where nothing that the law and all that it calls make is longer than what came in: it says more and counts as full. Else prove '..UptoSaid'. A law counts once. -/
mutual
def uptoBulk {H : Type} : DataW H → Nat
  | .lit (.string bytes) => bytes.length + 1
  | .lit _ => 1
  | .nil => 1
  | .ptr d => uptoBulk d + 1
  | .slice elems spare => uptoBulkAll elems + uptoBulkAll spare + 1
  | .agg parts => uptoBulkAll parts + 1
  | .iface _ d => uptoBulk d + 1
  | .map entries => uptoBulkEntries entries + 1
  | .held _ => 1
def uptoBulkAll {H : Type} : List (DataW H) → Nat
  | [] => 0
  | d :: r => uptoBulk d + uptoBulkAll r
def uptoBulkEntries {H : Type} : List (Lit × DataW H) → Nat
  | [] => 0
  | x :: r => uptoBulkEntry x + uptoBulkEntries r
def uptoBulkEntry {H : Type} : Lit × DataW H → Nat
  | (.string bytes, d) => bytes.length + uptoBulk d + 1
  | (_, d) => uptoBulk d + 1
 end
def uptoSmall : (H : Type) → List (DataW H) → Bool := fun _ ds => decide (uptoBulkAll ds ≤ 1048576)
def OpenSpec.upto (s : _root_.Go.ChangeSpec) : _root_.Go.OpenSpec := { _root_.Go.OpenSpec.ofChange s with cond := some uptoSmall }

/-- 'tarnlaw12.ReconDepths', WHERE WHAT IT READS IS OF BULK AT MOST 1048576: true; the input reads as it did. -/
def reconDepthsUptoRow : OpenClaim := { program := "ytnljcdplcloedaagreatdoor", sum := "c59e0811f62a76ad284a8596191c48dcbf8223d379b5fcdf8b9a78bcd1f28fa3", func := "tarn/tarnlaw12.ReconDepths", spec := "reconDepths", inPlace := ["math.Float64frombits", "math.Float64bits", "math.sqrt", "math.archFloor", "math.archTrunc"], unfollowed := true, recurses := true, named := ["tarn/cube.frames", "tarn/geom.frames"], plainKeys := false, apart := false, laid := [("tarn/cube.frames", laid_tarn_cube_frames), ("tarn/geom.frames", laid_tarn_geom_frames)], narrowed := true }
def ReconDepthsUptoSaid : Prop := reconDepthsUptoRow.holds Tryz.pinned (OpenSpec.upto reconDepthsSpec)

/-- 'tarnlaw12.ReconMemory', WHERE WHAT IT READS IS OF BULK AT MOST 1048576: true; the input reads as it did. -/
def reconMemoryUptoRow : OpenClaim := { program := "ytnljcdplcloedaagreatdoor", sum := "c59e0811f62a76ad284a8596191c48dcbf8223d379b5fcdf8b9a78bcd1f28fa3", func := "tarn/tarnlaw12.ReconMemory", spec := "reconMemory", inPlace := ["math.Float64frombits", "math.Float64bits", "math.sqrt", "math.archFloor", "math.archTrunc"], unfollowed := true, recurses := true, named := ["tarn/cube.frames", "tarn/geom.frames"], plainKeys := false, apart := false, laid := [("tarn/cube.frames", laid_tarn_cube_frames), ("tarn/geom.frames", laid_tarn_geom_frames)], narrowed := true }
def ReconMemoryUptoSaid : Prop := reconMemoryUptoRow.holds Tryz.pinned (OpenSpec.upto reconMemorySpec)

/-- 'tarnlaw13.FluxQuanta', WHERE WHAT IT READS IS OF BULK AT MOST 1048576: true; the input reads as it did. -/
def fluxQuantaUptoRow : OpenClaim := { program := "ytnljcdplcloedaagreatdoor", sum := "c59e0811f62a76ad284a8596191c48dcbf8223d379b5fcdf8b9a78bcd1f28fa3", func := "tarn/tarnlaw13.FluxQuanta", spec := "fluxQuanta", inPlace := ["math.Float64frombits", "math.Float64bits", "math.sqrt", "math.archFloor", "math.archTrunc"], unfollowed := true, recurses := true, named := ["tarn/cube.frames", "tarn/geom.frames"], plainKeys := false, apart := false, laid := [("tarn/cube.frames", laid_tarn_cube_frames), ("tarn/geom.frames", laid_tarn_geom_frames)], narrowed := true }
def FluxQuantaUptoSaid : Prop := fluxQuantaUptoRow.holds Tryz.pinned (OpenSpec.upto fluxQuantaSpec)

/-- 'tarnlaw13.FluxAll', WHERE WHAT IT READS IS OF BULK AT MOST 1048576: true; the input reads as it did. -/
def fluxAllUptoRow : OpenClaim := { program := "ytnljcdplcloedaagreatdoor", sum := "c59e0811f62a76ad284a8596191c48dcbf8223d379b5fcdf8b9a78bcd1f28fa3", func := "tarn/tarnlaw13.FluxAll", spec := "fluxAll", inPlace := ["math.Float64frombits", "math.Float64bits", "math.sqrt", "math.archFloor", "math.archTrunc"], unfollowed := true, recurses := true, named := ["tarn/cube.frames", "tarn/geom.frames"], plainKeys := false, apart := false, laid := [("tarn/cube.frames", laid_tarn_cube_frames), ("tarn/geom.frames", laid_tarn_geom_frames)], narrowed := true }
def FluxAllUptoSaid : Prop := fluxAllUptoRow.holds Tryz.pinned (OpenSpec.upto fluxAllSpec)

/-- 'tarnlaw13.FluxSigns', WHERE WHAT IT READS IS OF BULK AT MOST 1048576: true; the input reads as it did. -/
def fluxSignsUptoRow : OpenClaim := { program := "ytnljcdplcloedaagreatdoor", sum := "c59e0811f62a76ad284a8596191c48dcbf8223d379b5fcdf8b9a78bcd1f28fa3", func := "tarn/tarnlaw13.FluxSigns", spec := "fluxSigns", inPlace := ["math.Float64frombits", "math.Float64bits", "math.sqrt", "math.archFloor", "math.archTrunc"], unfollowed := true, recurses := true, named := ["tarn/cube.frames", "tarn/geom.frames"], plainKeys := false, apart := false, laid := [("tarn/cube.frames", laid_tarn_cube_frames), ("tarn/geom.frames", laid_tarn_geom_frames)], narrowed := true }
def FluxSignsUptoSaid : Prop := fluxSignsUptoRow.holds Tryz.pinned (OpenSpec.upto fluxSignsSpec)

/-- 'tarnlaw13.FluxEdges', WHERE WHAT IT READS IS OF BULK AT MOST 1048576: true; the input reads as it did. -/
def fluxEdgesUptoRow : OpenClaim := { program := "ytnljcdplcloedaagreatdoor", sum := "c59e0811f62a76ad284a8596191c48dcbf8223d379b5fcdf8b9a78bcd1f28fa3", func := "tarn/tarnlaw13.FluxEdges", spec := "fluxEdges", inPlace := ["math.Float64frombits", "math.Float64bits", "math.sqrt", "math.archFloor", "math.archTrunc"], unfollowed := true, recurses := true, named := ["tarn/cube.frames", "tarn/geom.frames"], plainKeys := false, apart := false, laid := [("tarn/cube.frames", laid_tarn_cube_frames), ("tarn/geom.frames", laid_tarn_geom_frames)], narrowed := true }
def FluxEdgesUptoSaid : Prop := fluxEdgesUptoRow.holds Tryz.pinned (OpenSpec.upto fluxEdgesSpec)

/-- 'tarnlaw13.FluxStill', WHERE WHAT IT READS IS OF BULK AT MOST 1048576: true; the input reads as it did. -/
def fluxStillUptoRow : OpenClaim := { program := "ytnljcdplcloedaagreatdoor", sum := "c59e0811f62a76ad284a8596191c48dcbf8223d379b5fcdf8b9a78bcd1f28fa3", func := "tarn/tarnlaw13.FluxStill", spec := "fluxStill", inPlace := ["math.Float64frombits", "math.Float64bits", "math.sqrt", "math.archFloor", "math.archTrunc"], unfollowed := true, recurses := true, named := ["tarn/cube.frames", "tarn/geom.frames"], plainKeys := false, apart := false, laid := [("tarn/cube.frames", laid_tarn_cube_frames), ("tarn/geom.frames", laid_tarn_geom_frames)], narrowed := true }
def FluxStillUptoSaid : Prop := fluxStillUptoRow.holds Tryz.pinned (OpenSpec.upto fluxStillSpec)

/-- 'tarnlaw13.FluxKeeps', WHERE WHAT IT READS IS OF BULK AT MOST 1048576: true; the input reads as it did. -/
def fluxKeepsUptoRow : OpenClaim := { program := "ytnljcdplcloedaagreatdoor", sum := "c59e0811f62a76ad284a8596191c48dcbf8223d379b5fcdf8b9a78bcd1f28fa3", func := "tarn/tarnlaw13.FluxKeeps", spec := "fluxKeeps", inPlace := ["math.Float64frombits", "math.Float64bits", "math.sqrt", "math.archFloor", "math.archTrunc"], unfollowed := true, recurses := true, named := ["tarn/cube.frames", "tarn/geom.frames"], plainKeys := false, apart := false, laid := [("tarn/cube.frames", laid_tarn_cube_frames), ("tarn/geom.frames", laid_tarn_geom_frames)], narrowed := true }
def FluxKeepsUptoSaid : Prop := fluxKeepsUptoRow.holds Tryz.pinned (OpenSpec.upto fluxKeepsSpec)

/-- 'tarnlaw12.ReconTurned', WHERE WHAT IT READS IS OF BULK AT MOST 1048576: true; the input reads as it did. -/
def reconTurnedUptoRow : OpenClaim := { program := "ytnljcdplcloedaagreatdoor", sum := "c59e0811f62a76ad284a8596191c48dcbf8223d379b5fcdf8b9a78bcd1f28fa3", func := "tarn/tarnlaw12.ReconTurned", spec := "reconTurned", inPlace := ["math.Float64frombits", "math.Float64bits", "math.sqrt", "math.archFloor", "math.archTrunc"], unfollowed := true, recurses := true, named := ["tarn/cube.frames", "tarn/geom.frames"], plainKeys := false, apart := false, laid := [("tarn/cube.frames", laid_tarn_cube_frames), ("tarn/geom.frames", laid_tarn_geom_frames)], narrowed := true }
def ReconTurnedUptoSaid : Prop := reconTurnedUptoRow.holds Tryz.pinned (OpenSpec.upto reconTurnedSpec)

/-- 'tarnlaw20.StatePlans', WHERE WHAT IT READS IS OF BULK AT MOST 1048576: true; the input reads as it did. -/
def statePlansUptoRow : OpenClaim := { program := "ytnljcdplcloedaagreatdoor", sum := "c59e0811f62a76ad284a8596191c48dcbf8223d379b5fcdf8b9a78bcd1f28fa3", func := "tarn/tarnlaw20.StatePlans", spec := "statePlans", inPlace := ["math.Float64bits", "math.Float64frombits", "math.sqrt", "math.archFloor", "math.archTrunc"], unfollowed := true, recurses := true, named := ["tarn/cube.frames", "tarn/geom.frames"], plainKeys := false, apart := false, laid := [("tarn/cube.frames", laid_tarn_cube_frames), ("tarn/geom.frames", laid_tarn_geom_frames)], narrowed := true }
def StatePlansUptoSaid : Prop := statePlansUptoRow.holds Tryz.pinned (OpenSpec.upto statePlansSpec)

/-- 'tarnlaw20.StateChecks', WHERE WHAT IT READS IS OF BULK AT MOST 1048576: true; the input reads as it did. -/
def stateChecksUptoRow : OpenClaim := { program := "ytnljcdplcloedaagreatdoor", sum := "c59e0811f62a76ad284a8596191c48dcbf8223d379b5fcdf8b9a78bcd1f28fa3", func := "tarn/tarnlaw20.StateChecks", spec := "stateChecks", inPlace := ["math.Float64bits", "math.Float64frombits", "math.sqrt", "math.archFloor", "math.archTrunc"], unfollowed := true, recurses := true, named := ["tarn/cube.frames", "tarn/geom.frames"], plainKeys := false, apart := false, laid := [("tarn/cube.frames", laid_tarn_cube_frames), ("tarn/geom.frames", laid_tarn_geom_frames)], narrowed := true }
def StateChecksUptoSaid : Prop := stateChecksUptoRow.holds Tryz.pinned (OpenSpec.upto stateChecksSpec)

/-- 'tarnlaw20.StateSames', WHERE WHAT IT READS IS OF BULK AT MOST 1048576: true; the input reads as it did. -/
def stateSamesUptoRow : OpenClaim := { program := "ytnljcdplcloedaagreatdoor", sum := "c59e0811f62a76ad284a8596191c48dcbf8223d379b5fcdf8b9a78bcd1f28fa3", func := "tarn/tarnlaw20.StateSames", spec := "stateSames", inPlace := ["math.Float64bits", "math.Float64frombits", "math.sqrt", "math.archFloor", "math.archTrunc"], unfollowed := true, recurses := true, named := ["tarn/cube.frames", "tarn/geom.frames"], plainKeys := false, apart := false, laid := [("tarn/cube.frames", laid_tarn_cube_frames), ("tarn/geom.frames", laid_tarn_geom_frames)], narrowed := true }
def StateSamesUptoSaid : Prop := stateSamesUptoRow.holds Tryz.pinned (OpenSpec.upto stateSamesSpec)

/-- 'tarnlaw20.StateTurned', WHERE WHAT IT READS IS OF BULK AT MOST 1048576: true; the input reads as it did. -/
def stateTurnedUptoRow : OpenClaim := { program := "ytnljcdplcloedaagreatdoor", sum := "c59e0811f62a76ad284a8596191c48dcbf8223d379b5fcdf8b9a78bcd1f28fa3", func := "tarn/tarnlaw20.StateTurned", spec := "stateTurned", inPlace := ["math.Float64bits", "math.Float64frombits", "math.sqrt", "math.archFloor", "math.archTrunc"], unfollowed := true, recurses := true, named := ["tarn/cube.frames", "tarn/geom.frames"], plainKeys := false, apart := false, laid := [("tarn/cube.frames", laid_tarn_cube_frames), ("tarn/geom.frames", laid_tarn_geom_frames)], narrowed := true }
def StateTurnedUptoSaid : Prop := stateTurnedUptoRow.holds Tryz.pinned (OpenSpec.upto stateTurnedSpec)

/-- 'tarnlaw20.StateGroup', WHERE WHAT IT READS IS OF BULK AT MOST 1048576: true; the input reads as it did. -/
def stateGroupUptoRow : OpenClaim := { program := "ytnljcdplcloedaagreatdoor", sum := "c59e0811f62a76ad284a8596191c48dcbf8223d379b5fcdf8b9a78bcd1f28fa3", func := "tarn/tarnlaw20.StateGroup", spec := "stateGroup", inPlace := ["math.Float64bits", "math.Float64frombits", "math.sqrt", "math.archFloor", "math.archTrunc"], unfollowed := true, recurses := true, named := ["tarn/cube.frames", "tarn/geom.frames"], plainKeys := false, apart := false, laid := [("tarn/cube.frames", laid_tarn_cube_frames), ("tarn/geom.frames", laid_tarn_geom_frames)], narrowed := true }
def StateGroupUptoSaid : Prop := stateGroupUptoRow.holds Tryz.pinned (OpenSpec.upto stateGroupSpec)

/-- 'tarnlaw20.StateMoves', WHERE WHAT IT READS IS OF BULK AT MOST 1048576: true; the input reads as it did. -/
def stateMovesUptoRow : OpenClaim := { program := "ytnljcdplcloedaagreatdoor", sum := "c59e0811f62a76ad284a8596191c48dcbf8223d379b5fcdf8b9a78bcd1f28fa3", func := "tarn/tarnlaw20.StateMoves", spec := "stateMoves", inPlace := ["math.Float64bits", "math.Float64frombits", "math.sqrt", "math.archFloor", "math.archTrunc"], unfollowed := true, recurses := true, named := ["tarn/cube.frames", "tarn/geom.frames"], plainKeys := false, apart := false, laid := [("tarn/cube.frames", laid_tarn_cube_frames), ("tarn/geom.frames", laid_tarn_geom_frames)], narrowed := true }
def StateMovesUptoSaid : Prop := stateMovesUptoRow.holds Tryz.pinned (OpenSpec.upto stateMovesSpec)

/-- 'tarnlaw20.StateLakes', WHERE WHAT IT READS IS OF BULK AT MOST 1048576: true; the input reads as it did. -/
def stateLakesUptoRow : OpenClaim := { program := "ytnljcdplcloedaagreatdoor", sum := "c59e0811f62a76ad284a8596191c48dcbf8223d379b5fcdf8b9a78bcd1f28fa3", func := "tarn/tarnlaw20.StateLakes", spec := "stateLakes", inPlace := ["math.Float64bits", "math.Float64frombits", "math.sqrt", "math.archFloor", "math.archTrunc"], unfollowed := true, recurses := true, named := ["tarn/cube.frames", "tarn/geom.frames"], plainKeys := false, apart := false, laid := [("tarn/cube.frames", laid_tarn_cube_frames), ("tarn/geom.frames", laid_tarn_geom_frames)], narrowed := true }
def StateLakesUptoSaid : Prop := stateLakesUptoRow.holds Tryz.pinned (OpenSpec.upto stateLakesSpec)

/-- 'tarnlaw20.StateKeeps', WHERE WHAT IT READS IS OF BULK AT MOST 1048576: true; the input reads as it did. -/
def stateKeepsUptoRow : OpenClaim := { program := "ytnljcdplcloedaagreatdoor", sum := "c59e0811f62a76ad284a8596191c48dcbf8223d379b5fcdf8b9a78bcd1f28fa3", func := "tarn/tarnlaw20.StateKeeps", spec := "stateKeeps", inPlace := ["math.Float64bits", "math.Float64frombits", "math.sqrt", "math.archFloor", "math.archTrunc"], unfollowed := true, recurses := true, named := ["tarn/cube.frames", "tarn/geom.frames"], plainKeys := false, apart := false, laid := [("tarn/cube.frames", laid_tarn_cube_frames), ("tarn/geom.frames", laid_tarn_geom_frames)], narrowed := true }
def StateKeepsUptoSaid : Prop := stateKeepsUptoRow.holds Tryz.pinned (OpenSpec.upto stateKeepsSpec)

/-- 'tarnlaw22.SplitEnough', WHERE WHAT IT READS IS OF BULK AT MOST 1048576: true; the input reads as it did. -/
def splitEnoughUptoRow : OpenClaim := { program := "ytnljcdplcloedaagreatdoor", sum := "c59e0811f62a76ad284a8596191c48dcbf8223d379b5fcdf8b9a78bcd1f28fa3", func := "tarn/tarnlaw22.SplitEnough", spec := "splitEnough", inPlace := ["math.Float64frombits", "math.Float64bits", "math.sqrt", "math.archFloor", "math.archTrunc"], unfollowed := true, recurses := true, named := ["tarn/cube.frames", "tarn/geom.frames"], plainKeys := false, apart := false, laid := [("tarn/cube.frames", laid_tarn_cube_frames), ("tarn/geom.frames", laid_tarn_geom_frames)], narrowed := true }
def SplitEnoughUptoSaid : Prop := splitEnoughUptoRow.holds Tryz.pinned (OpenSpec.upto splitEnoughSpec)

/-- 'tarnlaw26.CheckReports', WHERE WHAT IT READS IS OF BULK AT MOST 1048576: true; the input reads as it did. -/
def checkReportsUptoRow : OpenClaim := { program := "ytnljcdplcloedaagreatdoor", sum := "c59e0811f62a76ad284a8596191c48dcbf8223d379b5fcdf8b9a78bcd1f28fa3", func := "tarn/tarnlaw26.CheckReports", spec := "checkReports", inPlace := ["math.Float64bits", "math.Float64frombits", "math.sqrt", "math.archFloor", "math.archTrunc", "math/bits.Sub64", "math/bits.Add64"], unfollowed := true, recurses := true, named := ["tarn/cube.frames", "tarn/geom.frames"], plainKeys := false, apart := false, laid := [("tarn/cube.frames", laid_tarn_cube_frames), ("tarn/geom.frames", laid_tarn_geom_frames)], narrowed := true }
def CheckReportsUptoSaid : Prop := checkReportsUptoRow.holds Tryz.pinned (OpenSpec.upto checkReportsSpec)

/-- 'tarnlaw26.CheckRests', WHERE WHAT IT READS IS OF BULK AT MOST 1048576: true; the input reads as it did. -/
def checkRestsUptoRow : OpenClaim := { program := "ytnljcdplcloedaagreatdoor", sum := "c59e0811f62a76ad284a8596191c48dcbf8223d379b5fcdf8b9a78bcd1f28fa3", func := "tarn/tarnlaw26.CheckRests", spec := "checkRests", inPlace := ["math.Float64bits", "math.Float64frombits", "math.sqrt", "math.archFloor", "math.archTrunc", "math/bits.Sub64", "math/bits.Add64"], unfollowed := true, recurses := true, named := ["tarn/cube.frames", "tarn/geom.frames"], plainKeys := false, apart := false, laid := [("tarn/cube.frames", laid_tarn_cube_frames), ("tarn/geom.frames", laid_tarn_geom_frames)], narrowed := true }
def CheckRestsUptoSaid : Prop := checkRestsUptoRow.holds Tryz.pinned (OpenSpec.upto checkRestsSpec)

/-- 'tarnlaw26.CheckKept', WHERE WHAT IT READS IS OF BULK AT MOST 1048576: true; the input reads as it did. -/
def checkKeptUptoRow : OpenClaim := { program := "ytnljcdplcloedaagreatdoor", sum := "c59e0811f62a76ad284a8596191c48dcbf8223d379b5fcdf8b9a78bcd1f28fa3", func := "tarn/tarnlaw26.CheckKept", spec := "checkKept", inPlace := ["math.Float64bits", "math.Float64frombits", "math.sqrt", "math.archFloor", "math.archTrunc", "math/bits.Sub64", "math/bits.Add64"], unfollowed := true, recurses := true, named := ["tarn/cube.frames", "tarn/geom.frames"], plainKeys := false, apart := false, laid := [("tarn/cube.frames", laid_tarn_cube_frames), ("tarn/geom.frames", laid_tarn_geom_frames)], narrowed := true }
def CheckKeptUptoSaid : Prop := checkKeptUptoRow.holds Tryz.pinned (OpenSpec.upto checkKeptSpec)

/-- 'tarnlaw26.CheckMoved', WHERE WHAT IT READS IS OF BULK AT MOST 1048576: true; the input reads as it did. -/
def checkMovedUptoRow : OpenClaim := { program := "ytnljcdplcloedaagreatdoor", sum := "c59e0811f62a76ad284a8596191c48dcbf8223d379b5fcdf8b9a78bcd1f28fa3", func := "tarn/tarnlaw26.CheckMoved", spec := "checkMoved", inPlace := ["math.Float64bits", "math.Float64frombits", "math.sqrt", "math.archFloor", "math.archTrunc", "math/bits.Sub64", "math/bits.Add64"], unfollowed := true, recurses := true, named := ["tarn/cube.frames", "tarn/geom.frames"], plainKeys := false, apart := false, laid := [("tarn/cube.frames", laid_tarn_cube_frames), ("tarn/geom.frames", laid_tarn_geom_frames)], narrowed := true }
def CheckMovedUptoSaid : Prop := checkMovedUptoRow.holds Tryz.pinned (OpenSpec.upto checkMovedSpec)

/-- 'tarnlaw26.CheckKeeps', WHERE WHAT IT READS IS OF BULK AT MOST 1048576: true; the input reads as it did. -/
def checkKeepsUptoRow : OpenClaim := { program := "ytnljcdplcloedaagreatdoor", sum := "c59e0811f62a76ad284a8596191c48dcbf8223d379b5fcdf8b9a78bcd1f28fa3", func := "tarn/tarnlaw26.CheckKeeps", spec := "checkKeeps", inPlace := ["math.Float64bits", "math.Float64frombits", "math.sqrt", "math.archFloor", "math.archTrunc", "math/bits.Sub64", "math/bits.Add64"], unfollowed := true, recurses := true, named := ["tarn/cube.frames", "tarn/geom.frames"], plainKeys := false, apart := false, laid := [("tarn/cube.frames", laid_tarn_cube_frames), ("tarn/geom.frames", laid_tarn_geom_frames)], narrowed := true }
def CheckKeepsUptoSaid : Prop := checkKeepsUptoRow.holds Tryz.pinned (OpenSpec.upto checkKeepsSpec)

/-- 'tarnlaw26.CheckLakes', WHERE WHAT IT READS IS OF BULK AT MOST 1048576: true; the input reads as it did. -/
def checkLakesUptoRow : OpenClaim := { program := "ytnljcdplcloedaagreatdoor", sum := "c59e0811f62a76ad284a8596191c48dcbf8223d379b5fcdf8b9a78bcd1f28fa3", func := "tarn/tarnlaw26.CheckLakes", spec := "checkLakes", inPlace := ["math.Float64bits", "math.Float64frombits", "math.sqrt", "math.archFloor", "math.archTrunc", "math/bits.Sub64", "math/bits.Add64"], unfollowed := true, recurses := true, named := ["tarn/cube.frames", "tarn/geom.frames"], plainKeys := false, apart := false, laid := [("tarn/cube.frames", laid_tarn_cube_frames), ("tarn/geom.frames", laid_tarn_geom_frames)], narrowed := true }
def CheckLakesUptoSaid : Prop := checkLakesUptoRow.holds Tryz.pinned (OpenSpec.upto checkLakesSpec)

/-- 'tarnlaw26.CheckTurned', WHERE WHAT IT READS IS OF BULK AT MOST 1048576: true; the input reads as it did. -/
def checkTurnedUptoRow : OpenClaim := { program := "ytnljcdplcloedaagreatdoor", sum := "c59e0811f62a76ad284a8596191c48dcbf8223d379b5fcdf8b9a78bcd1f28fa3", func := "tarn/tarnlaw26.CheckTurned", spec := "checkTurned", inPlace := ["math.Float64bits", "math.Float64frombits", "math.sqrt", "math.archFloor", "math.archTrunc", "math/bits.Sub64", "math/bits.Add64"], unfollowed := true, recurses := true, named := ["tarn/cube.frames", "tarn/geom.frames"], plainKeys := false, apart := false, laid := [("tarn/cube.frames", laid_tarn_cube_frames), ("tarn/geom.frames", laid_tarn_geom_frames)], narrowed := true }
def CheckTurnedUptoSaid : Prop := checkTurnedUptoRow.holds Tryz.pinned (OpenSpec.upto checkTurnedSpec)

end Rows
end Go.Proofs.YtnljcdplcloedaaGreatDoor
