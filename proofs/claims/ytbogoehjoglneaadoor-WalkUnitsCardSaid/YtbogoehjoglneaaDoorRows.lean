/-
  NARROWER THAN 'FOR EVERY INPUT', by the rows' own cells (each row's printed sentence says how): WalkCursor: laid · WalkThere: laid · WalkSteps: laid · WalkLong: laid · SeekSteps: laid · WalkUnits: laid · SeekNil: laid · WalkLines: laid · WalkLongLines: laid · WalkNil: laid · SeekBytes: laid.
  DERIVED. THE GIVEN ROWS OF THIS SEAT. 11 by the template 'for every input the law returns true; each argument reads behind the call as it read before'; 0 by the template 'total and deterministic' (their statements: YtbogoehjoglneaaDoorTotals.lean).
  GIVEN WITH THE SEED: the statements are not yours to turn. If you find one false, say at which input.
  Laid BY PROGRAM, IN A SANDBOX (cutbox-rows.mjs): the forced cells as the released guide's own fill.sh prints them over the translation 9b5baab5cc4f2a50… (all of the seat's roots in one cut). By AI agents, Wed Nov 11 2026. No macro, syntax, notation, axiom, sorry.
-/
import Derived.Test.YtbogoehjoglneaaDoorChecked
import GoSem.Claim
import GoSem.ClaimJoined
import GoSem.ClaimMapViews
import Derived.JoinedTies
import Derived.KernelRfl
namespace Go.Proofs.YtbogoehjoglneaaDoor
/- THE CELL 'sum', in the pinned program and in every row, IS THE sha256 OF THE DUMP (.gsa) THAT YtbogoehjoglneaaDoorProg.lean LOADS. Nothing in Lean hashes anything: it is a label: what it is worth is what the hold of that sum in a sandbox is worth. -/
noncomputable def Tryd.pinned : Pinned := { name := "ytbogoehjoglneaadoor", sum := "9b5baab5cc4f2a50031624c311e4539d44be0cd37ac51bb30d59d18e7eaedc57", checked := Tryd.checked }
namespace Rows
def none {H : Type} : Left H := { results := [], args := [] }

/- WHAT THE LISTED PACKAGE-LEVEL VARIABLES READ AS WHEN THE CALL BEGINS. Each datum BY PROGRAM (the guide's laid-datum.mjs) off the statement by which the dump's own 'gosem.cut.vars' lays the variable. In a bare row this is a premise. The card (YtbogoehjoglneaaDoorCards.lean) ties it to the program's text. -/
def laid_galley_octet_spans {H : Type} : DataW H := .agg [.agg [.lit (.int .i64 0), .lit (.int .i64 127), .lit (.int .i64 1)], .agg [.lit (.int .i64 128), .lit (.int .i64 191), .lit (.int .i64 2)], .agg [.lit (.int .i64 192), .lit (.int .i64 193), .lit (.int .i64 6)], .agg [.lit (.int .i64 194), .lit (.int .i64 223), .lit (.int .i64 3)], .agg [.lit (.int .i64 224), .lit (.int .i64 239), .lit (.int .i64 4)], .agg [.lit (.int .i64 240), .lit (.int .i64 244), .lit (.int .i64 5)], .agg [.lit (.int .i64 245), .lit (.int .i64 255), .lit (.int .i64 6)]]
def laid_galley_octet_needs {H : Type} : DataW H := .agg [.lit (.int .i64 0), .lit (.int .i64 1), .lit (.int .i64 0), .lit (.int .i64 2), .lit (.int .i64 3), .lit (.int .i64 4), .lit (.int .i64 0)]
def laid_galley_octet_masks {H : Type} : DataW H := .agg [.lit (.int .u8 0), .lit (.int .u8 127), .lit (.int .u8 31), .lit (.int .u8 15), .lit (.int .u8 7)]
def laid_galley_step_bad {H : Type} : DataW H := .agg [.lit (.int .i32 65533), .lit (.int .i64 1), .lit (.bool false)]

/-- 'galleylaw11.WalkCursor': WHATEVER THE INPUT: true; the input reads as it did. -/
def walkCursorSpec : ChangeSpec := { name := "walkCursor", fn := fun _ => fun
  | [d1, d2, d3] => { results := [.lit (.bool true)], args := [d1, d2, d3] }
  | _ => none }
def walkCursorRow : OpenClaim := { program := "ytbogoehjoglneaadoor", sum := "9b5baab5cc4f2a50031624c311e4539d44be0cd37ac51bb30d59d18e7eaedc57", func := "galley/galleylaw11.WalkCursor", spec := "walkCursor", unfollowed := true, recurses := true, named := ["galley/step.bad", "galley/octet.masks", "galley/octet.needs", "galley/octet.spans"], apart := false, laid := [("galley/octet.spans", laid_galley_octet_spans), ("galley/octet.needs", laid_galley_octet_needs), ("galley/octet.masks", laid_galley_octet_masks), ("galley/step.bad", laid_galley_step_bad)] }
def WalkCursorSaid : Prop := walkCursorRow.holds Tryd.pinned (OpenSpec.ofChange walkCursorSpec)

/-- ITS FALSE NEIGHBOUR: 'it returns false'. Refute it at one input. -/
def walkCursorWrong : ChangeSpec := { name := "walkCursor", fn := fun _ => fun
  | [d1, d2, d3] => { results := [.lit (.bool false)], args := [d1, d2, d3] }
  | _ => none }
def WalkCursorWrongFalsely : Prop := walkCursorRow.holds Tryd.pinned (OpenSpec.ofChange walkCursorWrong)

/-- 'galleylaw11.WalkThere': WHATEVER THE INPUT: true; the input reads as it did. -/
def walkThereSpec : ChangeSpec := { name := "walkThere", fn := fun _ => fun
  | [d] => { results := [.lit (.bool true)], args := [d] }
  | _ => none }
def walkThereRow : OpenClaim := { program := "ytbogoehjoglneaadoor", sum := "9b5baab5cc4f2a50031624c311e4539d44be0cd37ac51bb30d59d18e7eaedc57", func := "galley/galleylaw11.WalkThere", spec := "walkThere", unfollowed := true, recurses := true, named := ["galley/step.bad", "galley/octet.masks", "galley/octet.needs", "galley/octet.spans"], apart := false, laid := [("galley/octet.spans", laid_galley_octet_spans), ("galley/octet.needs", laid_galley_octet_needs), ("galley/octet.masks", laid_galley_octet_masks), ("galley/step.bad", laid_galley_step_bad)] }
def WalkThereSaid : Prop := walkThereRow.holds Tryd.pinned (OpenSpec.ofChange walkThereSpec)

/-- ITS FALSE NEIGHBOUR: 'it returns false'. Refute it at one input. -/
def walkThereWrong : ChangeSpec := { name := "walkThere", fn := fun _ => fun
  | [d] => { results := [.lit (.bool false)], args := [d] }
  | _ => none }
def WalkThereWrongFalsely : Prop := walkThereRow.holds Tryd.pinned (OpenSpec.ofChange walkThereWrong)

/-- 'galleylaw11.WalkSteps': WHATEVER THE INPUT: true; the input reads as it did. -/
def walkStepsSpec : ChangeSpec := { name := "walkSteps", fn := fun _ => fun
  | [d1, d2, d3] => { results := [.lit (.bool true)], args := [d1, d2, d3] }
  | _ => none }
def walkStepsRow : OpenClaim := { program := "ytbogoehjoglneaadoor", sum := "9b5baab5cc4f2a50031624c311e4539d44be0cd37ac51bb30d59d18e7eaedc57", func := "galley/galleylaw11.WalkSteps", spec := "walkSteps", unfollowed := true, recurses := true, named := ["galley/step.bad", "galley/octet.masks", "galley/octet.needs", "galley/octet.spans"], apart := false, laid := [("galley/octet.spans", laid_galley_octet_spans), ("galley/octet.needs", laid_galley_octet_needs), ("galley/octet.masks", laid_galley_octet_masks), ("galley/step.bad", laid_galley_step_bad)] }
def WalkStepsSaid : Prop := walkStepsRow.holds Tryd.pinned (OpenSpec.ofChange walkStepsSpec)

/-- ITS FALSE NEIGHBOUR: 'it returns false'. Refute it at one input. -/
def walkStepsWrong : ChangeSpec := { name := "walkSteps", fn := fun _ => fun
  | [d1, d2, d3] => { results := [.lit (.bool false)], args := [d1, d2, d3] }
  | _ => none }
def WalkStepsWrongFalsely : Prop := walkStepsRow.holds Tryd.pinned (OpenSpec.ofChange walkStepsWrong)

/-- 'galleylaw11.WalkLong': WHATEVER THE INPUT: true; the input reads as it did. -/
def walkLongSpec : ChangeSpec := { name := "walkLong", fn := fun _ => fun
  | [d1, d2] => { results := [.lit (.bool true)], args := [d1, d2] }
  | _ => none }
def walkLongRow : OpenClaim := { program := "ytbogoehjoglneaadoor", sum := "9b5baab5cc4f2a50031624c311e4539d44be0cd37ac51bb30d59d18e7eaedc57", func := "galley/galleylaw11.WalkLong", spec := "walkLong", unfollowed := true, recurses := true, named := ["galley/step.bad", "galley/octet.masks", "galley/octet.needs", "galley/octet.spans"], apart := false, laid := [("galley/octet.spans", laid_galley_octet_spans), ("galley/octet.needs", laid_galley_octet_needs), ("galley/octet.masks", laid_galley_octet_masks), ("galley/step.bad", laid_galley_step_bad)] }
def WalkLongSaid : Prop := walkLongRow.holds Tryd.pinned (OpenSpec.ofChange walkLongSpec)

/-- ITS FALSE NEIGHBOUR: 'it returns false'. Refute it at one input. -/
def walkLongWrong : ChangeSpec := { name := "walkLong", fn := fun _ => fun
  | [d1, d2] => { results := [.lit (.bool false)], args := [d1, d2] }
  | _ => none }
def WalkLongWrongFalsely : Prop := walkLongRow.holds Tryd.pinned (OpenSpec.ofChange walkLongWrong)

/-- 'galleylaw10.SeekSteps': WHATEVER THE INPUT: true; the input reads as it did. -/
def seekStepsSpec : ChangeSpec := { name := "seekSteps", fn := fun _ => fun
  | [d] => { results := [.lit (.bool true)], args := [d] }
  | _ => none }
def seekStepsRow : OpenClaim := { program := "ytbogoehjoglneaadoor", sum := "9b5baab5cc4f2a50031624c311e4539d44be0cd37ac51bb30d59d18e7eaedc57", func := "galley/galleylaw10.SeekSteps", spec := "seekSteps", unfollowed := true, recurses := true, named := ["galley/step.bad", "galley/octet.masks", "galley/octet.needs", "galley/octet.spans"], apart := false, laid := [("galley/octet.spans", laid_galley_octet_spans), ("galley/octet.needs", laid_galley_octet_needs), ("galley/octet.masks", laid_galley_octet_masks), ("galley/step.bad", laid_galley_step_bad)] }
def SeekStepsSaid : Prop := seekStepsRow.holds Tryd.pinned (OpenSpec.ofChange seekStepsSpec)

/-- ITS FALSE NEIGHBOUR: 'it returns false'. Refute it at one input. -/
def seekStepsWrong : ChangeSpec := { name := "seekSteps", fn := fun _ => fun
  | [d] => { results := [.lit (.bool false)], args := [d] }
  | _ => none }
def SeekStepsWrongFalsely : Prop := seekStepsRow.holds Tryd.pinned (OpenSpec.ofChange seekStepsWrong)

/-- 'galleylaw11.WalkUnits': WHATEVER THE INPUT: true; the input reads as it did. -/
def walkUnitsSpec : ChangeSpec := { name := "walkUnits", fn := fun _ => fun
  | [d] => { results := [.lit (.bool true)], args := [d] }
  | _ => none }
def walkUnitsRow : OpenClaim := { program := "ytbogoehjoglneaadoor", sum := "9b5baab5cc4f2a50031624c311e4539d44be0cd37ac51bb30d59d18e7eaedc57", func := "galley/galleylaw11.WalkUnits", spec := "walkUnits", unfollowed := true, recurses := true, named := ["galley/step.bad", "galley/octet.masks", "galley/octet.needs", "galley/octet.spans"], apart := false, laid := [("galley/octet.spans", laid_galley_octet_spans), ("galley/octet.needs", laid_galley_octet_needs), ("galley/octet.masks", laid_galley_octet_masks), ("galley/step.bad", laid_galley_step_bad)] }
def WalkUnitsSaid : Prop := walkUnitsRow.holds Tryd.pinned (OpenSpec.ofChange walkUnitsSpec)

/-- ITS FALSE NEIGHBOUR: 'it returns false'. Refute it at one input. -/
def walkUnitsWrong : ChangeSpec := { name := "walkUnits", fn := fun _ => fun
  | [d] => { results := [.lit (.bool false)], args := [d] }
  | _ => none }
def WalkUnitsWrongFalsely : Prop := walkUnitsRow.holds Tryd.pinned (OpenSpec.ofChange walkUnitsWrong)

/-- 'galleylaw10.SeekNil': WHATEVER THE INPUT: true; the input reads as it did. -/
def seekNilSpec : ChangeSpec := { name := "seekNil", fn := fun _ => fun
  | [d] => { results := [.lit (.bool true)], args := [d] }
  | _ => none }
def seekNilRow : OpenClaim := { program := "ytbogoehjoglneaadoor", sum := "9b5baab5cc4f2a50031624c311e4539d44be0cd37ac51bb30d59d18e7eaedc57", func := "galley/galleylaw10.SeekNil", spec := "seekNil", unfollowed := true, recurses := true, named := ["galley/step.bad", "galley/octet.masks", "galley/octet.needs", "galley/octet.spans"], apart := false, laid := [("galley/octet.spans", laid_galley_octet_spans), ("galley/octet.needs", laid_galley_octet_needs), ("galley/octet.masks", laid_galley_octet_masks), ("galley/step.bad", laid_galley_step_bad)] }
def SeekNilSaid : Prop := seekNilRow.holds Tryd.pinned (OpenSpec.ofChange seekNilSpec)

/-- ITS FALSE NEIGHBOUR: 'it returns false'. Refute it at one input. -/
def seekNilWrong : ChangeSpec := { name := "seekNil", fn := fun _ => fun
  | [d] => { results := [.lit (.bool false)], args := [d] }
  | _ => none }
def SeekNilWrongFalsely : Prop := seekNilRow.holds Tryd.pinned (OpenSpec.ofChange seekNilWrong)

/-- 'galleylaw11.WalkLines': WHATEVER THE INPUT: true; the input reads as it did. -/
def walkLinesSpec : ChangeSpec := { name := "walkLines", fn := fun _ => fun
  | [d1, d2] => { results := [.lit (.bool true)], args := [d1, d2] }
  | _ => none }
def walkLinesRow : OpenClaim := { program := "ytbogoehjoglneaadoor", sum := "9b5baab5cc4f2a50031624c311e4539d44be0cd37ac51bb30d59d18e7eaedc57", func := "galley/galleylaw11.WalkLines", spec := "walkLines", unfollowed := true, recurses := true, named := ["galley/step.bad", "galley/octet.masks", "galley/octet.needs", "galley/octet.spans"], apart := false, laid := [("galley/octet.spans", laid_galley_octet_spans), ("galley/octet.needs", laid_galley_octet_needs), ("galley/octet.masks", laid_galley_octet_masks), ("galley/step.bad", laid_galley_step_bad)] }
def WalkLinesSaid : Prop := walkLinesRow.holds Tryd.pinned (OpenSpec.ofChange walkLinesSpec)

/-- ITS FALSE NEIGHBOUR: 'it returns false'. Refute it at one input. -/
def walkLinesWrong : ChangeSpec := { name := "walkLines", fn := fun _ => fun
  | [d1, d2] => { results := [.lit (.bool false)], args := [d1, d2] }
  | _ => none }
def WalkLinesWrongFalsely : Prop := walkLinesRow.holds Tryd.pinned (OpenSpec.ofChange walkLinesWrong)

/-- 'galleylaw11.WalkLongLines': WHATEVER THE INPUT: true; the input reads as it did. -/
def walkLongLinesSpec : ChangeSpec := { name := "walkLongLines", fn := fun _ => fun
  | [d1, d2] => { results := [.lit (.bool true)], args := [d1, d2] }
  | _ => none }
def walkLongLinesRow : OpenClaim := { program := "ytbogoehjoglneaadoor", sum := "9b5baab5cc4f2a50031624c311e4539d44be0cd37ac51bb30d59d18e7eaedc57", func := "galley/galleylaw11.WalkLongLines", spec := "walkLongLines", unfollowed := true, recurses := true, named := ["galley/step.bad", "galley/octet.masks", "galley/octet.needs", "galley/octet.spans"], apart := false, laid := [("galley/octet.spans", laid_galley_octet_spans), ("galley/octet.needs", laid_galley_octet_needs), ("galley/octet.masks", laid_galley_octet_masks), ("galley/step.bad", laid_galley_step_bad)] }
def WalkLongLinesSaid : Prop := walkLongLinesRow.holds Tryd.pinned (OpenSpec.ofChange walkLongLinesSpec)

/-- ITS FALSE NEIGHBOUR: 'it returns false'. Refute it at one input. -/
def walkLongLinesWrong : ChangeSpec := { name := "walkLongLines", fn := fun _ => fun
  | [d1, d2] => { results := [.lit (.bool false)], args := [d1, d2] }
  | _ => none }
def WalkLongLinesWrongFalsely : Prop := walkLongLinesRow.holds Tryd.pinned (OpenSpec.ofChange walkLongLinesWrong)

/-- 'galleylaw11.WalkNil': WHATEVER THE INPUT: true; the input reads as it did. -/
def walkNilSpec : ChangeSpec := { name := "walkNil", fn := fun _ => fun
  | [d] => { results := [.lit (.bool true)], args := [d] }
  | _ => none }
def walkNilRow : OpenClaim := { program := "ytbogoehjoglneaadoor", sum := "9b5baab5cc4f2a50031624c311e4539d44be0cd37ac51bb30d59d18e7eaedc57", func := "galley/galleylaw11.WalkNil", spec := "walkNil", unfollowed := true, recurses := true, named := ["galley/step.bad", "galley/octet.masks", "galley/octet.needs", "galley/octet.spans"], apart := false, laid := [("galley/octet.spans", laid_galley_octet_spans), ("galley/octet.needs", laid_galley_octet_needs), ("galley/octet.masks", laid_galley_octet_masks), ("galley/step.bad", laid_galley_step_bad)] }
def WalkNilSaid : Prop := walkNilRow.holds Tryd.pinned (OpenSpec.ofChange walkNilSpec)

/-- ITS FALSE NEIGHBOUR: 'it returns false'. Refute it at one input. -/
def walkNilWrong : ChangeSpec := { name := "walkNil", fn := fun _ => fun
  | [d] => { results := [.lit (.bool false)], args := [d] }
  | _ => none }
def WalkNilWrongFalsely : Prop := walkNilRow.holds Tryd.pinned (OpenSpec.ofChange walkNilWrong)

/-- 'galleylaw10.SeekBytes': WHATEVER THE INPUT: true; the input reads as it did. -/
def seekBytesSpec : ChangeSpec := { name := "seekBytes", fn := fun _ => fun
  | [d1, d2, d3] => { results := [.lit (.bool true)], args := [d1, d2, d3] }
  | _ => none }
def seekBytesRow : OpenClaim := { program := "ytbogoehjoglneaadoor", sum := "9b5baab5cc4f2a50031624c311e4539d44be0cd37ac51bb30d59d18e7eaedc57", func := "galley/galleylaw10.SeekBytes", spec := "seekBytes", unfollowed := true, recurses := true, named := ["galley/step.bad", "galley/octet.masks", "galley/octet.needs", "galley/octet.spans"], apart := false, laid := [("galley/octet.spans", laid_galley_octet_spans), ("galley/octet.needs", laid_galley_octet_needs), ("galley/octet.masks", laid_galley_octet_masks), ("galley/step.bad", laid_galley_step_bad)] }
def SeekBytesSaid : Prop := seekBytesRow.holds Tryd.pinned (OpenSpec.ofChange seekBytesSpec)

/-- ITS FALSE NEIGHBOUR: 'it returns false'. Refute it at one input. -/
def seekBytesWrong : ChangeSpec := { name := "seekBytes", fn := fun _ => fun
  | [d1, d2, d3] => { results := [.lit (.bool false)], args := [d1, d2, d3] }
  | _ => none }
def SeekBytesWrongFalsely : Prop := seekBytesRow.holds Tryd.pinned (OpenSpec.ofChange seekBytesWrong)

/- THE SECOND FORM. 'bulk': how many values and letters a reading holds, each counted each time it is reached (what is shared counts as often as it is met; a slice's spare places count too). A statement '..UptoSaid' is the law's where the arguments, and the package variables that the reading takes, are together of bulk at most 1048576: NARROWER than '..Said'. Prove '..Said' where nothing that the law and all that it calls make is longer than what came in: it says more and counts as full. Else prove '..UptoSaid'. A law counts once. -/
mutual
def uptoBulk {H : Type} : DataW H → Nat
  | .lit (.string bytes) => bytes.length + 1
  | .lit _ => 1
  | .nil => 1
  | .ptr d => uptoBulk d + 1
  | .slice elems spare => uptoBulkAll elems + uptoBulkAll spare + 1
  | .agg parts => uptoBulkAll parts + 1
  | .iface _ d => uptoBulk d + 1
  | .map entries => uptoBulkEntries entries + 1
  | .held _ => 1
def uptoBulkAll {H : Type} : List (DataW H) → Nat
  | [] => 0
  | d :: r => uptoBulk d + uptoBulkAll r
def uptoBulkEntries {H : Type} : List (Lit × DataW H) → Nat
  | [] => 0
  | x :: r => uptoBulkEntry x + uptoBulkEntries r
def uptoBulkEntry {H : Type} : Lit × DataW H → Nat
  | (.string bytes, d) => bytes.length + uptoBulk d + 1
  | (_, d) => uptoBulk d + 1
 end
def uptoSmall : (H : Type) → List (DataW H) → Bool := fun _ ds => decide (uptoBulkAll ds ≤ 1048576)
def OpenSpec.upto (s : _root_.Go.ChangeSpec) : _root_.Go.OpenSpec := { _root_.Go.OpenSpec.ofChange s with cond := some uptoSmall }

/-- 'galleylaw11.WalkCursor', WHERE WHAT IT READS IS OF BULK AT MOST 1048576: true; the input reads as it did. -/
def walkCursorUptoRow : OpenClaim := { program := "ytbogoehjoglneaadoor", sum := "9b5baab5cc4f2a50031624c311e4539d44be0cd37ac51bb30d59d18e7eaedc57", func := "galley/galleylaw11.WalkCursor", spec := "walkCursor", unfollowed := true, recurses := true, named := ["galley/step.bad", "galley/octet.masks", "galley/octet.needs", "galley/octet.spans"], apart := false, laid := [("galley/octet.spans", laid_galley_octet_spans), ("galley/octet.needs", laid_galley_octet_needs), ("galley/octet.masks", laid_galley_octet_masks), ("galley/step.bad", laid_galley_step_bad)], narrowed := true }
def WalkCursorUptoSaid : Prop := walkCursorUptoRow.holds Tryd.pinned (OpenSpec.upto walkCursorSpec)

/-- 'galleylaw11.WalkThere', WHERE WHAT IT READS IS OF BULK AT MOST 1048576: true; the input reads as it did. -/
def walkThereUptoRow : OpenClaim := { program := "ytbogoehjoglneaadoor", sum := "9b5baab5cc4f2a50031624c311e4539d44be0cd37ac51bb30d59d18e7eaedc57", func := "galley/galleylaw11.WalkThere", spec := "walkThere", unfollowed := true, recurses := true, named := ["galley/step.bad", "galley/octet.masks", "galley/octet.needs", "galley/octet.spans"], apart := false, laid := [("galley/octet.spans", laid_galley_octet_spans), ("galley/octet.needs", laid_galley_octet_needs), ("galley/octet.masks", laid_galley_octet_masks), ("galley/step.bad", laid_galley_step_bad)], narrowed := true }
def WalkThereUptoSaid : Prop := walkThereUptoRow.holds Tryd.pinned (OpenSpec.upto walkThereSpec)

/-- 'galleylaw11.WalkSteps', WHERE WHAT IT READS IS OF BULK AT MOST 1048576: true; the input reads as it did. -/
def walkStepsUptoRow : OpenClaim := { program := "ytbogoehjoglneaadoor", sum := "9b5baab5cc4f2a50031624c311e4539d44be0cd37ac51bb30d59d18e7eaedc57", func := "galley/galleylaw11.WalkSteps", spec := "walkSteps", unfollowed := true, recurses := true, named := ["galley/step.bad", "galley/octet.masks", "galley/octet.needs", "galley/octet.spans"], apart := false, laid := [("galley/octet.spans", laid_galley_octet_spans), ("galley/octet.needs", laid_galley_octet_needs), ("galley/octet.masks", laid_galley_octet_masks), ("galley/step.bad", laid_galley_step_bad)], narrowed := true }
def WalkStepsUptoSaid : Prop := walkStepsUptoRow.holds Tryd.pinned (OpenSpec.upto walkStepsSpec)

/-- 'galleylaw11.WalkLong', WHERE WHAT IT READS IS OF BULK AT MOST 1048576: true; the input reads as it did. -/
def walkLongUptoRow : OpenClaim := { program := "ytbogoehjoglneaadoor", sum := "9b5baab5cc4f2a50031624c311e4539d44be0cd37ac51bb30d59d18e7eaedc57", func := "galley/galleylaw11.WalkLong", spec := "walkLong", unfollowed := true, recurses := true, named := ["galley/step.bad", "galley/octet.masks", "galley/octet.needs", "galley/octet.spans"], apart := false, laid := [("galley/octet.spans", laid_galley_octet_spans), ("galley/octet.needs", laid_galley_octet_needs), ("galley/octet.masks", laid_galley_octet_masks), ("galley/step.bad", laid_galley_step_bad)], narrowed := true }
def WalkLongUptoSaid : Prop := walkLongUptoRow.holds Tryd.pinned (OpenSpec.upto walkLongSpec)

/-- 'galleylaw10.SeekSteps', WHERE WHAT IT READS IS OF BULK AT MOST 1048576: true; the input reads as it did. -/
def seekStepsUptoRow : OpenClaim := { program := "ytbogoehjoglneaadoor", sum := "9b5baab5cc4f2a50031624c311e4539d44be0cd37ac51bb30d59d18e7eaedc57", func := "galley/galleylaw10.SeekSteps", spec := "seekSteps", unfollowed := true, recurses := true, named := ["galley/step.bad", "galley/octet.masks", "galley/octet.needs", "galley/octet.spans"], apart := false, laid := [("galley/octet.spans", laid_galley_octet_spans), ("galley/octet.needs", laid_galley_octet_needs), ("galley/octet.masks", laid_galley_octet_masks), ("galley/step.bad", laid_galley_step_bad)], narrowed := true }
def SeekStepsUptoSaid : Prop := seekStepsUptoRow.holds Tryd.pinned (OpenSpec.upto seekStepsSpec)

/-- 'galleylaw11.WalkUnits', WHERE WHAT IT READS IS OF BULK AT MOST 1048576: true; the input reads as it did. -/
def walkUnitsUptoRow : OpenClaim := { program := "ytbogoehjoglneaadoor", sum := "9b5baab5cc4f2a50031624c311e4539d44be0cd37ac51bb30d59d18e7eaedc57", func := "galley/galleylaw11.WalkUnits", spec := "walkUnits", unfollowed := true, recurses := true, named := ["galley/step.bad", "galley/octet.masks", "galley/octet.needs", "galley/octet.spans"], apart := false, laid := [("galley/octet.spans", laid_galley_octet_spans), ("galley/octet.needs", laid_galley_octet_needs), ("galley/octet.masks", laid_galley_octet_masks), ("galley/step.bad", laid_galley_step_bad)], narrowed := true }
def WalkUnitsUptoSaid : Prop := walkUnitsUptoRow.holds Tryd.pinned (OpenSpec.upto walkUnitsSpec)

/-- 'galleylaw10.SeekNil', WHERE WHAT IT READS IS OF BULK AT MOST 1048576: true; the input reads as it did. -/
def seekNilUptoRow : OpenClaim := { program := "ytbogoehjoglneaadoor", sum := "9b5baab5cc4f2a50031624c311e4539d44be0cd37ac51bb30d59d18e7eaedc57", func := "galley/galleylaw10.SeekNil", spec := "seekNil", unfollowed := true, recurses := true, named := ["galley/step.bad", "galley/octet.masks", "galley/octet.needs", "galley/octet.spans"], apart := false, laid := [("galley/octet.spans", laid_galley_octet_spans), ("galley/octet.needs", laid_galley_octet_needs), ("galley/octet.masks", laid_galley_octet_masks), ("galley/step.bad", laid_galley_step_bad)], narrowed := true }
def SeekNilUptoSaid : Prop := seekNilUptoRow.holds Tryd.pinned (OpenSpec.upto seekNilSpec)

/-- 'galleylaw11.WalkLines', WHERE WHAT IT READS IS OF BULK AT MOST 1048576: true; the input reads as it did. -/
def walkLinesUptoRow : OpenClaim := { program := "ytbogoehjoglneaadoor", sum := "9b5baab5cc4f2a50031624c311e4539d44be0cd37ac51bb30d59d18e7eaedc57", func := "galley/galleylaw11.WalkLines", spec := "walkLines", unfollowed := true, recurses := true, named := ["galley/step.bad", "galley/octet.masks", "galley/octet.needs", "galley/octet.spans"], apart := false, laid := [("galley/octet.spans", laid_galley_octet_spans), ("galley/octet.needs", laid_galley_octet_needs), ("galley/octet.masks", laid_galley_octet_masks), ("galley/step.bad", laid_galley_step_bad)], narrowed := true }
def WalkLinesUptoSaid : Prop := walkLinesUptoRow.holds Tryd.pinned (OpenSpec.upto walkLinesSpec)

/-- 'galleylaw11.WalkLongLines', WHERE WHAT IT READS IS OF BULK AT MOST 1048576: true; the input reads as it did. -/
def walkLongLinesUptoRow : OpenClaim := { program := "ytbogoehjoglneaadoor", sum := "9b5baab5cc4f2a50031624c311e4539d44be0cd37ac51bb30d59d18e7eaedc57", func := "galley/galleylaw11.WalkLongLines", spec := "walkLongLines", unfollowed := true, recurses := true, named := ["galley/step.bad", "galley/octet.masks", "galley/octet.needs", "galley/octet.spans"], apart := false, laid := [("galley/octet.spans", laid_galley_octet_spans), ("galley/octet.needs", laid_galley_octet_needs), ("galley/octet.masks", laid_galley_octet_masks), ("galley/step.bad", laid_galley_step_bad)], narrowed := true }
def WalkLongLinesUptoSaid : Prop := walkLongLinesUptoRow.holds Tryd.pinned (OpenSpec.upto walkLongLinesSpec)

/-- 'galleylaw11.WalkNil', WHERE WHAT IT READS IS OF BULK AT MOST 1048576: true; the input reads as it did. -/
def walkNilUptoRow : OpenClaim := { program := "ytbogoehjoglneaadoor", sum := "9b5baab5cc4f2a50031624c311e4539d44be0cd37ac51bb30d59d18e7eaedc57", func := "galley/galleylaw11.WalkNil", spec := "walkNil", unfollowed := true, recurses := true, named := ["galley/step.bad", "galley/octet.masks", "galley/octet.needs", "galley/octet.spans"], apart := false, laid := [("galley/octet.spans", laid_galley_octet_spans), ("galley/octet.needs", laid_galley_octet_needs), ("galley/octet.masks", laid_galley_octet_masks), ("galley/step.bad", laid_galley_step_bad)], narrowed := true }
def WalkNilUptoSaid : Prop := walkNilUptoRow.holds Tryd.pinned (OpenSpec.upto walkNilSpec)

/-- 'galleylaw10.SeekBytes', WHERE WHAT IT READS IS OF BULK AT MOST 1048576: true; the input reads as it did. -/
def seekBytesUptoRow : OpenClaim := { program := "ytbogoehjoglneaadoor", sum := "9b5baab5cc4f2a50031624c311e4539d44be0cd37ac51bb30d59d18e7eaedc57", func := "galley/galleylaw10.SeekBytes", spec := "seekBytes", unfollowed := true, recurses := true, named := ["galley/step.bad", "galley/octet.masks", "galley/octet.needs", "galley/octet.spans"], apart := false, laid := [("galley/octet.spans", laid_galley_octet_spans), ("galley/octet.needs", laid_galley_octet_needs), ("galley/octet.masks", laid_galley_octet_masks), ("galley/step.bad", laid_galley_step_bad)], narrowed := true }
def SeekBytesUptoSaid : Prop := seekBytesUptoRow.holds Tryd.pinned (OpenSpec.upto seekBytesSpec)

end Rows
end Go.Proofs.YtbogoehjoglneaaDoor
