/-
  No cell of these rows narrows 'for every input' (looked for: loops, veiled, ifaces, maps, wideKeys, modest, calm, conditions, laid).
  DERIVED. THE GIVEN ROWS OF THIS SEAT. 24 by the template 'for every input the law returns true; each argument reads behind the call as it read before'; 0 by the template 'total and deterministic' (their statements: YtlcmffbikiamjaaTotals.lean).
  GIVEN WITH THE SEED: the statements are not yours to turn. If you find one false, say at which input.
  Laid BY PROGRAM, IN A SANDBOX (cutbox-rows.mjs): the forced cells as the released guide's own fill.sh prints them over the translation 5d9c4d614350f91c… (all of the seat's roots in one cut). By AI agents, Wed Nov 11 2026. No macro, syntax, notation, axiom, sorry.
-/
import Derived.Test.YtlcmffbikiamjaaChecked
import GoSem.Claim
import GoSem.ClaimJoined
import GoSem.ClaimMapViews
import Derived.JoinedTies
import Derived.KernelRfl
namespace Go.Proofs.Ytlcmffbikiamjaa
/- THE CELL 'sum', in the pinned program and in every row, IS THE sha256 OF THE DUMP (.gsa) THAT YtlcmffbikiamjaaProg.lean LOADS. Nothing in Lean hashes anything: it is a label: what it is worth is what the hold of that sum in a sandbox is worth. -/
noncomputable def Try.pinned : Pinned := { name := "ytlcmffbikiamjaa", sum := "5d9c4d614350f91c97b0157e49cee530e28876f1338dee50d5a33dfadb75b8e8", checked := Try.checked }
namespace Rows
def none {H : Type} : Left H := { results := [], args := [] }

/-- 'interleavelaw11.EventIntSizes': WHATEVER THE INPUT: true; the input reads as it did. -/
def eventIntSizesSpec : ChangeSpec := { name := "eventIntSizes", fn := fun _ => fun
  | [d] => { results := [.lit (.bool true)], args := [d] }
  | _ => none }
def eventIntSizesRow : OpenClaim := { program := "ytlcmffbikiamjaa", sum := "5d9c4d614350f91c97b0157e49cee530e28876f1338dee50d5a33dfadb75b8e8", func := "interleave/interleavelaw11.EventIntSizes", spec := "eventIntSizes", apart := false }
def EventIntSizesSaid : Prop := eventIntSizesRow.holds Try.pinned (OpenSpec.ofChange eventIntSizesSpec)

/-- ITS FALSE NEIGHBOUR: 'it returns false'. Refute it at one input. -/
def eventIntSizesWrong : ChangeSpec := { name := "eventIntSizes", fn := fun _ => fun
  | [d] => { results := [.lit (.bool false)], args := [d] }
  | _ => none }
def EventIntSizesWrongFalsely : Prop := eventIntSizesRow.holds Try.pinned (OpenSpec.ofChange eventIntSizesWrong)

/-- 'interleavelaw13.BlockSums': WHATEVER THE INPUT: true; the input reads as it did. -/
def blockSumsSpec : ChangeSpec := { name := "blockSums", fn := fun _ => fun
  | [d] => { results := [.lit (.bool true)], args := [d] }
  | _ => none }
def blockSumsRow : OpenClaim := { program := "ytlcmffbikiamjaa", sum := "5d9c4d614350f91c97b0157e49cee530e28876f1338dee50d5a33dfadb75b8e8", func := "interleave/interleavelaw13.BlockSums", spec := "blockSums", apart := false }
def BlockSumsSaid : Prop := blockSumsRow.holds Try.pinned (OpenSpec.ofChange blockSumsSpec)

/-- ITS FALSE NEIGHBOUR: 'it returns false'. Refute it at one input. -/
def blockSumsWrong : ChangeSpec := { name := "blockSums", fn := fun _ => fun
  | [d] => { results := [.lit (.bool false)], args := [d] }
  | _ => none }
def BlockSumsWrongFalsely : Prop := blockSumsRow.holds Try.pinned (OpenSpec.ofChange blockSumsWrong)

/-- 'interleavelaw13.BlockLinear': WHATEVER THE INPUT: true; the input reads as it did. -/
def blockLinearSpec : ChangeSpec := { name := "blockLinear", fn := fun _ => fun
  | [d1, d2, d3] => { results := [.lit (.bool true)], args := [d1, d2, d3] }
  | _ => none }
def blockLinearRow : OpenClaim := { program := "ytlcmffbikiamjaa", sum := "5d9c4d614350f91c97b0157e49cee530e28876f1338dee50d5a33dfadb75b8e8", func := "interleave/interleavelaw13.BlockLinear", spec := "blockLinear", apart := false }
def BlockLinearSaid : Prop := blockLinearRow.holds Try.pinned (OpenSpec.ofChange blockLinearSpec)

/-- ITS FALSE NEIGHBOUR: 'it returns false'. Refute it at one input. -/
def blockLinearWrong : ChangeSpec := { name := "blockLinear", fn := fun _ => fun
  | [d1, d2, d3] => { results := [.lit (.bool false)], args := [d1, d2, d3] }
  | _ => none }
def BlockLinearWrongFalsely : Prop := blockLinearRow.holds Try.pinned (OpenSpec.ofChange blockLinearWrong)

/-- 'interleavelaw11.EventTells': WHATEVER THE INPUT: true; the input reads as it did. -/
def eventTellsSpec : ChangeSpec := { name := "eventTells", fn := fun _ => fun
  | [d1, d2, d3] => { results := [.lit (.bool true)], args := [d1, d2, d3] }
  | _ => none }
def eventTellsRow : OpenClaim := { program := "ytlcmffbikiamjaa", sum := "5d9c4d614350f91c97b0157e49cee530e28876f1338dee50d5a33dfadb75b8e8", func := "interleave/interleavelaw11.EventTells", spec := "eventTells", apart := false }
def EventTellsSaid : Prop := eventTellsRow.holds Try.pinned (OpenSpec.ofChange eventTellsSpec)

/-- ITS FALSE NEIGHBOUR: 'it returns false'. Refute it at one input. -/
def eventTellsWrong : ChangeSpec := { name := "eventTells", fn := fun _ => fun
  | [d1, d2, d3] => { results := [.lit (.bool false)], args := [d1, d2, d3] }
  | _ => none }
def EventTellsWrongFalsely : Prop := eventTellsRow.holds Try.pinned (OpenSpec.ofChange eventTellsWrong)

/-- 'interleavelaw11.EventInts': WHATEVER THE INPUT: true; the input reads as it did. -/
def eventIntsSpec : ChangeSpec := { name := "eventInts", fn := fun _ => fun
  | [d1, d2, d3] => { results := [.lit (.bool true)], args := [d1, d2, d3] }
  | _ => none }
def eventIntsRow : OpenClaim := { program := "ytlcmffbikiamjaa", sum := "5d9c4d614350f91c97b0157e49cee530e28876f1338dee50d5a33dfadb75b8e8", func := "interleave/interleavelaw11.EventInts", spec := "eventInts", apart := false }
def EventIntsSaid : Prop := eventIntsRow.holds Try.pinned (OpenSpec.ofChange eventIntsSpec)

/-- ITS FALSE NEIGHBOUR: 'it returns false'. Refute it at one input. -/
def eventIntsWrong : ChangeSpec := { name := "eventInts", fn := fun _ => fun
  | [d1, d2, d3] => { results := [.lit (.bool false)], args := [d1, d2, d3] }
  | _ => none }
def EventIntsWrongFalsely : Prop := eventIntsRow.holds Try.pinned (OpenSpec.ofChange eventIntsWrong)

/-- 'interleavelaw11.EventIntReads': WHATEVER THE INPUT: true; the input reads as it did. -/
def eventIntReadsSpec : ChangeSpec := { name := "eventIntReads", fn := fun _ => fun
  | [d] => { results := [.lit (.bool true)], args := [d] }
  | _ => none }
def eventIntReadsRow : OpenClaim := { program := "ytlcmffbikiamjaa", sum := "5d9c4d614350f91c97b0157e49cee530e28876f1338dee50d5a33dfadb75b8e8", func := "interleave/interleavelaw11.EventIntReads", spec := "eventIntReads", apart := false }
def EventIntReadsSaid : Prop := eventIntReadsRow.holds Try.pinned (OpenSpec.ofChange eventIntReadsSpec)

/-- ITS FALSE NEIGHBOUR: 'it returns false'. Refute it at one input. -/
def eventIntReadsWrong : ChangeSpec := { name := "eventIntReads", fn := fun _ => fun
  | [d] => { results := [.lit (.bool false)], args := [d] }
  | _ => none }
def EventIntReadsWrongFalsely : Prop := eventIntReadsRow.holds Try.pinned (OpenSpec.ofChange eventIntReadsWrong)

/-- 'interleavelaw11.EventIntsOnce': WHATEVER THE INPUT: true; the input reads as it did. -/
def eventIntsOnceSpec : ChangeSpec := { name := "eventIntsOnce", fn := fun _ => fun
  | [d] => { results := [.lit (.bool true)], args := [d] }
  | _ => none }
def eventIntsOnceRow : OpenClaim := { program := "ytlcmffbikiamjaa", sum := "5d9c4d614350f91c97b0157e49cee530e28876f1338dee50d5a33dfadb75b8e8", func := "interleave/interleavelaw11.EventIntsOnce", spec := "eventIntsOnce", apart := false }
def EventIntsOnceSaid : Prop := eventIntsOnceRow.holds Try.pinned (OpenSpec.ofChange eventIntsOnceSpec)

/-- ITS FALSE NEIGHBOUR: 'it returns false'. Refute it at one input. -/
def eventIntsOnceWrong : ChangeSpec := { name := "eventIntsOnce", fn := fun _ => fun
  | [d] => { results := [.lit (.bool false)], args := [d] }
  | _ => none }
def EventIntsOnceWrongFalsely : Prop := eventIntsOnceRow.holds Try.pinned (OpenSpec.ofChange eventIntsOnceWrong)

/-- 'interleavelaw12.PackTells': WHATEVER THE INPUT: true; the input reads as it did. -/
def packTellsSpec : ChangeSpec := { name := "packTells", fn := fun _ => fun
  | [d] => { results := [.lit (.bool true)], args := [d] }
  | _ => none }
def packTellsRow : OpenClaim := { program := "ytlcmffbikiamjaa", sum := "5d9c4d614350f91c97b0157e49cee530e28876f1338dee50d5a33dfadb75b8e8", func := "interleave/interleavelaw12.PackTells", spec := "packTells", unfollowed := true, recurses := true, apart := false }
def PackTellsSaid : Prop := packTellsRow.holds Try.pinned (OpenSpec.ofChange packTellsSpec)

/-- ITS FALSE NEIGHBOUR: 'it returns false'. Refute it at one input. -/
def packTellsWrong : ChangeSpec := { name := "packTells", fn := fun _ => fun
  | [d] => { results := [.lit (.bool false)], args := [d] }
  | _ => none }
def PackTellsWrongFalsely : Prop := packTellsRow.holds Try.pinned (OpenSpec.ofChange packTellsWrong)

/-- 'interleavelaw12.PackBounded': WHATEVER THE INPUT: true; the input reads as it did. -/
def packBoundedSpec : ChangeSpec := { name := "packBounded", fn := fun _ => fun
  | [d] => { results := [.lit (.bool true)], args := [d] }
  | _ => none }
def packBoundedRow : OpenClaim := { program := "ytlcmffbikiamjaa", sum := "5d9c4d614350f91c97b0157e49cee530e28876f1338dee50d5a33dfadb75b8e8", func := "interleave/interleavelaw12.PackBounded", spec := "packBounded", unfollowed := true, recurses := true, apart := false }
def PackBoundedSaid : Prop := packBoundedRow.holds Try.pinned (OpenSpec.ofChange packBoundedSpec)

/-- ITS FALSE NEIGHBOUR: 'it returns false'. Refute it at one input. -/
def packBoundedWrong : ChangeSpec := { name := "packBounded", fn := fun _ => fun
  | [d] => { results := [.lit (.bool false)], args := [d] }
  | _ => none }
def PackBoundedWrongFalsely : Prop := packBoundedRow.holds Try.pinned (OpenSpec.ofChange packBoundedWrong)

/-- 'interleavelaw12.PackRuns': WHATEVER THE INPUT: true; the input reads as it did. -/
def packRunsSpec : ChangeSpec := { name := "packRuns", fn := fun _ => fun
  | [d1, d2] => { results := [.lit (.bool true)], args := [d1, d2] }
  | _ => none }
def packRunsRow : OpenClaim := { program := "ytlcmffbikiamjaa", sum := "5d9c4d614350f91c97b0157e49cee530e28876f1338dee50d5a33dfadb75b8e8", func := "interleave/interleavelaw12.PackRuns", spec := "packRuns", unfollowed := true, recurses := true, apart := false }
def PackRunsSaid : Prop := packRunsRow.holds Try.pinned (OpenSpec.ofChange packRunsSpec)

/-- ITS FALSE NEIGHBOUR: 'it returns false'. Refute it at one input. -/
def packRunsWrong : ChangeSpec := { name := "packRuns", fn := fun _ => fun
  | [d1, d2] => { results := [.lit (.bool false)], args := [d1, d2] }
  | _ => none }
def PackRunsWrongFalsely : Prop := packRunsRow.holds Try.pinned (OpenSpec.ofChange packRunsWrong)

/-- 'interleavelaw12.PackReads': WHATEVER THE INPUT: true; the input reads as it did. -/
def packReadsSpec : ChangeSpec := { name := "packReads", fn := fun _ => fun
  | [d1, d2] => { results := [.lit (.bool true)], args := [d1, d2] }
  | _ => none }
def packReadsRow : OpenClaim := { program := "ytlcmffbikiamjaa", sum := "5d9c4d614350f91c97b0157e49cee530e28876f1338dee50d5a33dfadb75b8e8", func := "interleave/interleavelaw12.PackReads", spec := "packReads", unfollowed := true, recurses := true, apart := false }
def PackReadsSaid : Prop := packReadsRow.holds Try.pinned (OpenSpec.ofChange packReadsSpec)

/-- ITS FALSE NEIGHBOUR: 'it returns false'. Refute it at one input. -/
def packReadsWrong : ChangeSpec := { name := "packReads", fn := fun _ => fun
  | [d1, d2] => { results := [.lit (.bool false)], args := [d1, d2] }
  | _ => none }
def PackReadsWrongFalsely : Prop := packReadsRow.holds Try.pinned (OpenSpec.ofChange packReadsWrong)

/-- 'interleavelaw12.PackRoundTrip': WHATEVER THE INPUT: true; the input reads as it did. -/
def packRoundTripSpec : ChangeSpec := { name := "packRoundTrip", fn := fun _ => fun
  | [d] => { results := [.lit (.bool true)], args := [d] }
  | _ => none }
def packRoundTripRow : OpenClaim := { program := "ytlcmffbikiamjaa", sum := "5d9c4d614350f91c97b0157e49cee530e28876f1338dee50d5a33dfadb75b8e8", func := "interleave/interleavelaw12.PackRoundTrip", spec := "packRoundTrip", unfollowed := true, recurses := true, apart := false }
def PackRoundTripSaid : Prop := packRoundTripRow.holds Try.pinned (OpenSpec.ofChange packRoundTripSpec)

/-- ITS FALSE NEIGHBOUR: 'it returns false'. Refute it at one input. -/
def packRoundTripWrong : ChangeSpec := { name := "packRoundTrip", fn := fun _ => fun
  | [d] => { results := [.lit (.bool false)], args := [d] }
  | _ => none }
def PackRoundTripWrongFalsely : Prop := packRoundTripRow.holds Try.pinned (OpenSpec.ofChange packRoundTripWrong)

/-- 'interleavelaw12.PackJoins': WHATEVER THE INPUT: true; the input reads as it did. -/
def packJoinsSpec : ChangeSpec := { name := "packJoins", fn := fun _ => fun
  | [d1, d2] => { results := [.lit (.bool true)], args := [d1, d2] }
  | _ => none }
def packJoinsRow : OpenClaim := { program := "ytlcmffbikiamjaa", sum := "5d9c4d614350f91c97b0157e49cee530e28876f1338dee50d5a33dfadb75b8e8", func := "interleave/interleavelaw12.PackJoins", spec := "packJoins", unfollowed := true, recurses := true, apart := false }
def PackJoinsSaid : Prop := packJoinsRow.holds Try.pinned (OpenSpec.ofChange packJoinsSpec)

/-- ITS FALSE NEIGHBOUR: 'it returns false'. Refute it at one input. -/
def packJoinsWrong : ChangeSpec := { name := "packJoins", fn := fun _ => fun
  | [d1, d2] => { results := [.lit (.bool false)], args := [d1, d2] }
  | _ => none }
def PackJoinsWrongFalsely : Prop := packJoinsRow.holds Try.pinned (OpenSpec.ofChange packJoinsWrong)

/-- 'interleavelaw12.PackCuts': WHATEVER THE INPUT: true; the input reads as it did. -/
def packCutsSpec : ChangeSpec := { name := "packCuts", fn := fun _ => fun
  | [d1, d2] => { results := [.lit (.bool true)], args := [d1, d2] }
  | _ => none }
def packCutsRow : OpenClaim := { program := "ytlcmffbikiamjaa", sum := "5d9c4d614350f91c97b0157e49cee530e28876f1338dee50d5a33dfadb75b8e8", func := "interleave/interleavelaw12.PackCuts", spec := "packCuts", unfollowed := true, recurses := true, apart := false }
def PackCutsSaid : Prop := packCutsRow.holds Try.pinned (OpenSpec.ofChange packCutsSpec)

/-- ITS FALSE NEIGHBOUR: 'it returns false'. Refute it at one input. -/
def packCutsWrong : ChangeSpec := { name := "packCuts", fn := fun _ => fun
  | [d1, d2] => { results := [.lit (.bool false)], args := [d1, d2] }
  | _ => none }
def PackCutsWrongFalsely : Prop := packCutsRow.holds Try.pinned (OpenSpec.ofChange packCutsWrong)

/-- 'interleavelaw11.EventReads': WHATEVER THE INPUT: true; the input reads as it did. -/
def eventReadsSpec : ChangeSpec := { name := "eventReads", fn := fun _ => fun
  | [d1, d2, d3] => { results := [.lit (.bool true)], args := [d1, d2, d3] }
  | _ => none }
def eventReadsRow : OpenClaim := { program := "ytlcmffbikiamjaa", sum := "5d9c4d614350f91c97b0157e49cee530e28876f1338dee50d5a33dfadb75b8e8", func := "interleave/interleavelaw11.EventReads", spec := "eventReads", apart := false }
def EventReadsSaid : Prop := eventReadsRow.holds Try.pinned (OpenSpec.ofChange eventReadsSpec)

/-- ITS FALSE NEIGHBOUR: 'it returns false'. Refute it at one input. -/
def eventReadsWrong : ChangeSpec := { name := "eventReads", fn := fun _ => fun
  | [d1, d2, d3] => { results := [.lit (.bool false)], args := [d1, d2, d3] }
  | _ => none }
def EventReadsWrongFalsely : Prop := eventReadsRow.holds Try.pinned (OpenSpec.ofChange eventReadsWrong)

/-- 'interleavelaw11.EventRoundTrip': WHATEVER THE INPUT: true; the input reads as it did. -/
def eventRoundTripSpec : ChangeSpec := { name := "eventRoundTrip", fn := fun _ => fun
  | [d1, d2, d3, d4] => { results := [.lit (.bool true)], args := [d1, d2, d3, d4] }
  | _ => none }
def eventRoundTripRow : OpenClaim := { program := "ytlcmffbikiamjaa", sum := "5d9c4d614350f91c97b0157e49cee530e28876f1338dee50d5a33dfadb75b8e8", func := "interleave/interleavelaw11.EventRoundTrip", spec := "eventRoundTrip", apart := false }
def EventRoundTripSaid : Prop := eventRoundTripRow.holds Try.pinned (OpenSpec.ofChange eventRoundTripSpec)

/-- ITS FALSE NEIGHBOUR: 'it returns false'. Refute it at one input. -/
def eventRoundTripWrong : ChangeSpec := { name := "eventRoundTrip", fn := fun _ => fun
  | [d1, d2, d3, d4] => { results := [.lit (.bool false)], args := [d1, d2, d3, d4] }
  | _ => none }
def EventRoundTripWrongFalsely : Prop := eventRoundTripRow.holds Try.pinned (OpenSpec.ofChange eventRoundTripWrong)

/-- 'interleavelaw11.EventSpoilt': WHATEVER THE INPUT: true; the input reads as it did. -/
def eventSpoiltSpec : ChangeSpec := { name := "eventSpoilt", fn := fun _ => fun
  | [d1, d2, d3, d4, d5] => { results := [.lit (.bool true)], args := [d1, d2, d3, d4, d5] }
  | _ => none }
def eventSpoiltRow : OpenClaim := { program := "ytlcmffbikiamjaa", sum := "5d9c4d614350f91c97b0157e49cee530e28876f1338dee50d5a33dfadb75b8e8", func := "interleave/interleavelaw11.EventSpoilt", spec := "eventSpoilt", apart := false }
def EventSpoiltSaid : Prop := eventSpoiltRow.holds Try.pinned (OpenSpec.ofChange eventSpoiltSpec)

/-- ITS FALSE NEIGHBOUR: 'it returns false'. Refute it at one input. -/
def eventSpoiltWrong : ChangeSpec := { name := "eventSpoilt", fn := fun _ => fun
  | [d1, d2, d3, d4, d5] => { results := [.lit (.bool false)], args := [d1, d2, d3, d4, d5] }
  | _ => none }
def EventSpoiltWrongFalsely : Prop := eventSpoiltRow.holds Try.pinned (OpenSpec.ofChange eventSpoiltWrong)

/-- 'interleavelaw11.EventOnce': WHATEVER THE INPUT: true; the input reads as it did. -/
def eventOnceSpec : ChangeSpec := { name := "eventOnce", fn := fun _ => fun
  | [d1, d2, d3] => { results := [.lit (.bool true)], args := [d1, d2, d3] }
  | _ => none }
def eventOnceRow : OpenClaim := { program := "ytlcmffbikiamjaa", sum := "5d9c4d614350f91c97b0157e49cee530e28876f1338dee50d5a33dfadb75b8e8", func := "interleave/interleavelaw11.EventOnce", spec := "eventOnce", apart := false }
def EventOnceSaid : Prop := eventOnceRow.holds Try.pinned (OpenSpec.ofChange eventOnceSpec)

/-- ITS FALSE NEIGHBOUR: 'it returns false'. Refute it at one input. -/
def eventOnceWrong : ChangeSpec := { name := "eventOnce", fn := fun _ => fun
  | [d1, d2, d3] => { results := [.lit (.bool false)], args := [d1, d2, d3] }
  | _ => none }
def EventOnceWrongFalsely : Prop := eventOnceRow.holds Try.pinned (OpenSpec.ofChange eventOnceWrong)

/-- 'interleavelaw13.BlockTells': WHATEVER THE INPUT: true; the input reads as it did. -/
def blockTellsSpec : ChangeSpec := { name := "blockTells", fn := fun _ => fun
  | [d] => { results := [.lit (.bool true)], args := [d] }
  | _ => none }
def blockTellsRow : OpenClaim := { program := "ytlcmffbikiamjaa", sum := "5d9c4d614350f91c97b0157e49cee530e28876f1338dee50d5a33dfadb75b8e8", func := "interleave/interleavelaw13.BlockTells", spec := "blockTells", unfollowed := true, recurses := true, apart := false }
def BlockTellsSaid : Prop := blockTellsRow.holds Try.pinned (OpenSpec.ofChange blockTellsSpec)

/-- ITS FALSE NEIGHBOUR: 'it returns false'. Refute it at one input. -/
def blockTellsWrong : ChangeSpec := { name := "blockTells", fn := fun _ => fun
  | [d] => { results := [.lit (.bool false)], args := [d] }
  | _ => none }
def BlockTellsWrongFalsely : Prop := blockTellsRow.holds Try.pinned (OpenSpec.ofChange blockTellsWrong)

/-- 'interleavelaw14.RecordTells': WHATEVER THE INPUT: true; the input reads as it did. -/
def recordTellsSpec : ChangeSpec := { name := "recordTells", fn := fun _ => fun
  | [d1, d2, d3] => { results := [.lit (.bool true)], args := [d1, d2, d3] }
  | _ => none }
def recordTellsRow : OpenClaim := { program := "ytlcmffbikiamjaa", sum := "5d9c4d614350f91c97b0157e49cee530e28876f1338dee50d5a33dfadb75b8e8", func := "interleave/interleavelaw14.RecordTells", spec := "recordTells", unfollowed := true, recurses := true, apart := false }
def RecordTellsSaid : Prop := recordTellsRow.holds Try.pinned (OpenSpec.ofChange recordTellsSpec)

/-- ITS FALSE NEIGHBOUR: 'it returns false'. Refute it at one input. -/
def recordTellsWrong : ChangeSpec := { name := "recordTells", fn := fun _ => fun
  | [d1, d2, d3] => { results := [.lit (.bool false)], args := [d1, d2, d3] }
  | _ => none }
def RecordTellsWrongFalsely : Prop := recordTellsRow.holds Try.pinned (OpenSpec.ofChange recordTellsWrong)

/-- 'interleavelaw14.RecordErrors': WHATEVER THE INPUT: true; the input reads as it did. -/
def recordErrorsSpec : ChangeSpec := { name := "recordErrors", fn := fun _ => fun
  | [] => { results := [.lit (.bool true)], args := [] }
  | _ => none }
def recordErrorsRow : OpenClaim := { program := "ytlcmffbikiamjaa", sum := "5d9c4d614350f91c97b0157e49cee530e28876f1338dee50d5a33dfadb75b8e8", func := "interleave/interleavelaw14.RecordErrors", spec := "recordErrors", unfollowed := true, recurses := true, apart := false }
def RecordErrorsSaid : Prop := recordErrorsRow.holds Try.pinned (OpenSpec.ofChange recordErrorsSpec)

/-- ITS FALSE NEIGHBOUR: 'it returns false'. Refute it at one input. -/
def recordErrorsWrong : ChangeSpec := { name := "recordErrors", fn := fun _ => fun
  | [] => { results := [.lit (.bool false)], args := [] }
  | _ => none }
def RecordErrorsWrongFalsely : Prop := recordErrorsRow.holds Try.pinned (OpenSpec.ofChange recordErrorsWrong)

/-- 'interleavelaw13.BlockReads': WHATEVER THE INPUT: true; the input reads as it did. -/
def blockReadsSpec : ChangeSpec := { name := "blockReads", fn := fun _ => fun
  | [d] => { results := [.lit (.bool true)], args := [d] }
  | _ => none }
def blockReadsRow : OpenClaim := { program := "ytlcmffbikiamjaa", sum := "5d9c4d614350f91c97b0157e49cee530e28876f1338dee50d5a33dfadb75b8e8", func := "interleave/interleavelaw13.BlockReads", spec := "blockReads", unfollowed := true, recurses := true, apart := false }
def BlockReadsSaid : Prop := blockReadsRow.holds Try.pinned (OpenSpec.ofChange blockReadsSpec)

/-- ITS FALSE NEIGHBOUR: 'it returns false'. Refute it at one input. -/
def blockReadsWrong : ChangeSpec := { name := "blockReads", fn := fun _ => fun
  | [d] => { results := [.lit (.bool false)], args := [d] }
  | _ => none }
def BlockReadsWrongFalsely : Prop := blockReadsRow.holds Try.pinned (OpenSpec.ofChange blockReadsWrong)

/-- 'interleavelaw15.CollectBlocks': WHATEVER THE INPUT: true; the input reads as it did. -/
def collectBlocksSpec : ChangeSpec := { name := "collectBlocks", fn := fun _ => fun
  | [d1, d2] => { results := [.lit (.bool true)], args := [d1, d2] }
  | _ => none }
def collectBlocksRow : OpenClaim := { program := "ytlcmffbikiamjaa", sum := "5d9c4d614350f91c97b0157e49cee530e28876f1338dee50d5a33dfadb75b8e8", func := "interleave/interleavelaw15.CollectBlocks", spec := "collectBlocks", unfollowed := true, recurses := true, apart := false }
def CollectBlocksSaid : Prop := collectBlocksRow.holds Try.pinned (OpenSpec.ofChange collectBlocksSpec)

/-- ITS FALSE NEIGHBOUR: 'it returns false'. Refute it at one input. -/
def collectBlocksWrong : ChangeSpec := { name := "collectBlocks", fn := fun _ => fun
  | [d1, d2] => { results := [.lit (.bool false)], args := [d1, d2] }
  | _ => none }
def CollectBlocksWrongFalsely : Prop := collectBlocksRow.holds Try.pinned (OpenSpec.ofChange collectBlocksWrong)

/-- 'interleavelaw15.CollectTells': WHATEVER THE INPUT: true; the input reads as it did. -/
def collectTellsSpec : ChangeSpec := { name := "collectTells", fn := fun _ => fun
  | [d1, d2] => { results := [.lit (.bool true)], args := [d1, d2] }
  | _ => none }
def collectTellsRow : OpenClaim := { program := "ytlcmffbikiamjaa", sum := "5d9c4d614350f91c97b0157e49cee530e28876f1338dee50d5a33dfadb75b8e8", func := "interleave/interleavelaw15.CollectTells", spec := "collectTells", unfollowed := true, recurses := true, apart := false }
def CollectTellsSaid : Prop := collectTellsRow.holds Try.pinned (OpenSpec.ofChange collectTellsSpec)

/-- ITS FALSE NEIGHBOUR: 'it returns false'. Refute it at one input. -/
def collectTellsWrong : ChangeSpec := { name := "collectTells", fn := fun _ => fun
  | [d1, d2] => { results := [.lit (.bool false)], args := [d1, d2] }
  | _ => none }
def CollectTellsWrongFalsely : Prop := collectTellsRow.holds Try.pinned (OpenSpec.ofChange collectTellsWrong)

/- THE SECOND FORM. 'bulk': how many values and letters a reading holds, each counted each time it is reached (what is shared counts as often as it is met; a slice's spare places count too). A statement '..UptoSaid' is the law's where the arguments, and the package variables that the reading takes, are together of bulk at most 1048576: NARROWER than '..Said'. Prove '..Said' where nothing that the law and all that it calls make is longer than what came in: it says more and counts as full. Else prove '..UptoSaid'. A law counts once. -/
mutual
def uptoBulk {H : Type} : DataW H → Nat
  | .lit (.string bytes) => bytes.length + 1
  | .lit _ => 1
  | .nil => 1
  | .ptr d => uptoBulk d + 1
  | .slice elems spare => uptoBulkAll elems + uptoBulkAll spare + 1
  | .agg parts => uptoBulkAll parts + 1
  | .iface _ d => uptoBulk d + 1
  | .map entries => uptoBulkEntries entries + 1
  | .held _ => 1
def uptoBulkAll {H : Type} : List (DataW H) → Nat
  | [] => 0
  | d :: r => uptoBulk d + uptoBulkAll r
def uptoBulkEntries {H : Type} : List (Lit × DataW H) → Nat
  | [] => 0
  | x :: r => uptoBulkEntry x + uptoBulkEntries r
def uptoBulkEntry {H : Type} : Lit × DataW H → Nat
  | (.string bytes, d) => bytes.length + uptoBulk d + 1
  | (_, d) => uptoBulk d + 1
 end
def uptoSmall : (H : Type) → List (DataW H) → Bool := fun _ ds => decide (uptoBulkAll ds ≤ 1048576)
def OpenSpec.upto (s : _root_.Go.ChangeSpec) : _root_.Go.OpenSpec := { _root_.Go.OpenSpec.ofChange s with cond := some uptoSmall }

/-- 'interleavelaw11.EventIntSizes', WHERE WHAT IT READS IS OF BULK AT MOST 1048576: true; the input reads as it did. -/
def eventIntSizesUptoRow : OpenClaim := { program := "ytlcmffbikiamjaa", sum := "5d9c4d614350f91c97b0157e49cee530e28876f1338dee50d5a33dfadb75b8e8", func := "interleave/interleavelaw11.EventIntSizes", spec := "eventIntSizes", apart := false, narrowed := true }
def EventIntSizesUptoSaid : Prop := eventIntSizesUptoRow.holds Try.pinned (OpenSpec.upto eventIntSizesSpec)

/-- 'interleavelaw13.BlockSums', WHERE WHAT IT READS IS OF BULK AT MOST 1048576: true; the input reads as it did. -/
def blockSumsUptoRow : OpenClaim := { program := "ytlcmffbikiamjaa", sum := "5d9c4d614350f91c97b0157e49cee530e28876f1338dee50d5a33dfadb75b8e8", func := "interleave/interleavelaw13.BlockSums", spec := "blockSums", apart := false, narrowed := true }
def BlockSumsUptoSaid : Prop := blockSumsUptoRow.holds Try.pinned (OpenSpec.upto blockSumsSpec)

/-- 'interleavelaw13.BlockLinear', WHERE WHAT IT READS IS OF BULK AT MOST 1048576: true; the input reads as it did. -/
def blockLinearUptoRow : OpenClaim := { program := "ytlcmffbikiamjaa", sum := "5d9c4d614350f91c97b0157e49cee530e28876f1338dee50d5a33dfadb75b8e8", func := "interleave/interleavelaw13.BlockLinear", spec := "blockLinear", apart := false, narrowed := true }
def BlockLinearUptoSaid : Prop := blockLinearUptoRow.holds Try.pinned (OpenSpec.upto blockLinearSpec)

/-- 'interleavelaw11.EventTells', WHERE WHAT IT READS IS OF BULK AT MOST 1048576: true; the input reads as it did. -/
def eventTellsUptoRow : OpenClaim := { program := "ytlcmffbikiamjaa", sum := "5d9c4d614350f91c97b0157e49cee530e28876f1338dee50d5a33dfadb75b8e8", func := "interleave/interleavelaw11.EventTells", spec := "eventTells", apart := false, narrowed := true }
def EventTellsUptoSaid : Prop := eventTellsUptoRow.holds Try.pinned (OpenSpec.upto eventTellsSpec)

/-- 'interleavelaw11.EventInts', WHERE WHAT IT READS IS OF BULK AT MOST 1048576: true; the input reads as it did. -/
def eventIntsUptoRow : OpenClaim := { program := "ytlcmffbikiamjaa", sum := "5d9c4d614350f91c97b0157e49cee530e28876f1338dee50d5a33dfadb75b8e8", func := "interleave/interleavelaw11.EventInts", spec := "eventInts", apart := false, narrowed := true }
def EventIntsUptoSaid : Prop := eventIntsUptoRow.holds Try.pinned (OpenSpec.upto eventIntsSpec)

/-- 'interleavelaw11.EventIntReads', WHERE WHAT IT READS IS OF BULK AT MOST 1048576: true; the input reads as it did. -/
def eventIntReadsUptoRow : OpenClaim := { program := "ytlcmffbikiamjaa", sum := "5d9c4d614350f91c97b0157e49cee530e28876f1338dee50d5a33dfadb75b8e8", func := "interleave/interleavelaw11.EventIntReads", spec := "eventIntReads", apart := false, narrowed := true }
def EventIntReadsUptoSaid : Prop := eventIntReadsUptoRow.holds Try.pinned (OpenSpec.upto eventIntReadsSpec)

/-- 'interleavelaw11.EventIntsOnce', WHERE WHAT IT READS IS OF BULK AT MOST 1048576: true; the input reads as it did. -/
def eventIntsOnceUptoRow : OpenClaim := { program := "ytlcmffbikiamjaa", sum := "5d9c4d614350f91c97b0157e49cee530e28876f1338dee50d5a33dfadb75b8e8", func := "interleave/interleavelaw11.EventIntsOnce", spec := "eventIntsOnce", apart := false, narrowed := true }
def EventIntsOnceUptoSaid : Prop := eventIntsOnceUptoRow.holds Try.pinned (OpenSpec.upto eventIntsOnceSpec)

/-- 'interleavelaw12.PackTells', WHERE WHAT IT READS IS OF BULK AT MOST 1048576: true; the input reads as it did. -/
def packTellsUptoRow : OpenClaim := { program := "ytlcmffbikiamjaa", sum := "5d9c4d614350f91c97b0157e49cee530e28876f1338dee50d5a33dfadb75b8e8", func := "interleave/interleavelaw12.PackTells", spec := "packTells", unfollowed := true, recurses := true, apart := false, narrowed := true }
def PackTellsUptoSaid : Prop := packTellsUptoRow.holds Try.pinned (OpenSpec.upto packTellsSpec)

/-- 'interleavelaw12.PackBounded', WHERE WHAT IT READS IS OF BULK AT MOST 1048576: true; the input reads as it did. -/
def packBoundedUptoRow : OpenClaim := { program := "ytlcmffbikiamjaa", sum := "5d9c4d614350f91c97b0157e49cee530e28876f1338dee50d5a33dfadb75b8e8", func := "interleave/interleavelaw12.PackBounded", spec := "packBounded", unfollowed := true, recurses := true, apart := false, narrowed := true }
def PackBoundedUptoSaid : Prop := packBoundedUptoRow.holds Try.pinned (OpenSpec.upto packBoundedSpec)

/-- 'interleavelaw12.PackRuns', WHERE WHAT IT READS IS OF BULK AT MOST 1048576: true; the input reads as it did. -/
def packRunsUptoRow : OpenClaim := { program := "ytlcmffbikiamjaa", sum := "5d9c4d614350f91c97b0157e49cee530e28876f1338dee50d5a33dfadb75b8e8", func := "interleave/interleavelaw12.PackRuns", spec := "packRuns", unfollowed := true, recurses := true, apart := false, narrowed := true }
def PackRunsUptoSaid : Prop := packRunsUptoRow.holds Try.pinned (OpenSpec.upto packRunsSpec)

/-- 'interleavelaw12.PackReads', WHERE WHAT IT READS IS OF BULK AT MOST 1048576: true; the input reads as it did. -/
def packReadsUptoRow : OpenClaim := { program := "ytlcmffbikiamjaa", sum := "5d9c4d614350f91c97b0157e49cee530e28876f1338dee50d5a33dfadb75b8e8", func := "interleave/interleavelaw12.PackReads", spec := "packReads", unfollowed := true, recurses := true, apart := false, narrowed := true }
def PackReadsUptoSaid : Prop := packReadsUptoRow.holds Try.pinned (OpenSpec.upto packReadsSpec)

/-- 'interleavelaw12.PackRoundTrip', WHERE WHAT IT READS IS OF BULK AT MOST 1048576: true; the input reads as it did. -/
def packRoundTripUptoRow : OpenClaim := { program := "ytlcmffbikiamjaa", sum := "5d9c4d614350f91c97b0157e49cee530e28876f1338dee50d5a33dfadb75b8e8", func := "interleave/interleavelaw12.PackRoundTrip", spec := "packRoundTrip", unfollowed := true, recurses := true, apart := false, narrowed := true }
def PackRoundTripUptoSaid : Prop := packRoundTripUptoRow.holds Try.pinned (OpenSpec.upto packRoundTripSpec)

/-- 'interleavelaw12.PackJoins', WHERE WHAT IT READS IS OF BULK AT MOST 1048576: true; the input reads as it did. -/
def packJoinsUptoRow : OpenClaim := { program := "ytlcmffbikiamjaa", sum := "5d9c4d614350f91c97b0157e49cee530e28876f1338dee50d5a33dfadb75b8e8", func := "interleave/interleavelaw12.PackJoins", spec := "packJoins", unfollowed := true, recurses := true, apart := false, narrowed := true }
def PackJoinsUptoSaid : Prop := packJoinsUptoRow.holds Try.pinned (OpenSpec.upto packJoinsSpec)

/-- 'interleavelaw12.PackCuts', WHERE WHAT IT READS IS OF BULK AT MOST 1048576: true; the input reads as it did. -/
def packCutsUptoRow : OpenClaim := { program := "ytlcmffbikiamjaa", sum := "5d9c4d614350f91c97b0157e49cee530e28876f1338dee50d5a33dfadb75b8e8", func := "interleave/interleavelaw12.PackCuts", spec := "packCuts", unfollowed := true, recurses := true, apart := false, narrowed := true }
def PackCutsUptoSaid : Prop := packCutsUptoRow.holds Try.pinned (OpenSpec.upto packCutsSpec)

/-- 'interleavelaw11.EventReads', WHERE WHAT IT READS IS OF BULK AT MOST 1048576: true; the input reads as it did. -/
def eventReadsUptoRow : OpenClaim := { program := "ytlcmffbikiamjaa", sum := "5d9c4d614350f91c97b0157e49cee530e28876f1338dee50d5a33dfadb75b8e8", func := "interleave/interleavelaw11.EventReads", spec := "eventReads", apart := false, narrowed := true }
def EventReadsUptoSaid : Prop := eventReadsUptoRow.holds Try.pinned (OpenSpec.upto eventReadsSpec)

/-- 'interleavelaw11.EventRoundTrip', WHERE WHAT IT READS IS OF BULK AT MOST 1048576: true; the input reads as it did. -/
def eventRoundTripUptoRow : OpenClaim := { program := "ytlcmffbikiamjaa", sum := "5d9c4d614350f91c97b0157e49cee530e28876f1338dee50d5a33dfadb75b8e8", func := "interleave/interleavelaw11.EventRoundTrip", spec := "eventRoundTrip", apart := false, narrowed := true }
def EventRoundTripUptoSaid : Prop := eventRoundTripUptoRow.holds Try.pinned (OpenSpec.upto eventRoundTripSpec)

/-- 'interleavelaw11.EventSpoilt', WHERE WHAT IT READS IS OF BULK AT MOST 1048576: true; the input reads as it did. -/
def eventSpoiltUptoRow : OpenClaim := { program := "ytlcmffbikiamjaa", sum := "5d9c4d614350f91c97b0157e49cee530e28876f1338dee50d5a33dfadb75b8e8", func := "interleave/interleavelaw11.EventSpoilt", spec := "eventSpoilt", apart := false, narrowed := true }
def EventSpoiltUptoSaid : Prop := eventSpoiltUptoRow.holds Try.pinned (OpenSpec.upto eventSpoiltSpec)

/-- 'interleavelaw11.EventOnce', WHERE WHAT IT READS IS OF BULK AT MOST 1048576: true; the input reads as it did. -/
def eventOnceUptoRow : OpenClaim := { program := "ytlcmffbikiamjaa", sum := "5d9c4d614350f91c97b0157e49cee530e28876f1338dee50d5a33dfadb75b8e8", func := "interleave/interleavelaw11.EventOnce", spec := "eventOnce", apart := false, narrowed := true }
def EventOnceUptoSaid : Prop := eventOnceUptoRow.holds Try.pinned (OpenSpec.upto eventOnceSpec)

/-- 'interleavelaw13.BlockTells', WHERE WHAT IT READS IS OF BULK AT MOST 1048576: true; the input reads as it did. -/
def blockTellsUptoRow : OpenClaim := { program := "ytlcmffbikiamjaa", sum := "5d9c4d614350f91c97b0157e49cee530e28876f1338dee50d5a33dfadb75b8e8", func := "interleave/interleavelaw13.BlockTells", spec := "blockTells", unfollowed := true, recurses := true, apart := false, narrowed := true }
def BlockTellsUptoSaid : Prop := blockTellsUptoRow.holds Try.pinned (OpenSpec.upto blockTellsSpec)

/-- 'interleavelaw14.RecordTells', WHERE WHAT IT READS IS OF BULK AT MOST 1048576: true; the input reads as it did. -/
def recordTellsUptoRow : OpenClaim := { program := "ytlcmffbikiamjaa", sum := "5d9c4d614350f91c97b0157e49cee530e28876f1338dee50d5a33dfadb75b8e8", func := "interleave/interleavelaw14.RecordTells", spec := "recordTells", unfollowed := true, recurses := true, apart := false, narrowed := true }
def RecordTellsUptoSaid : Prop := recordTellsUptoRow.holds Try.pinned (OpenSpec.upto recordTellsSpec)

/-- 'interleavelaw14.RecordErrors', WHERE WHAT IT READS IS OF BULK AT MOST 1048576: true; the input reads as it did. -/
def recordErrorsUptoRow : OpenClaim := { program := "ytlcmffbikiamjaa", sum := "5d9c4d614350f91c97b0157e49cee530e28876f1338dee50d5a33dfadb75b8e8", func := "interleave/interleavelaw14.RecordErrors", spec := "recordErrors", unfollowed := true, recurses := true, apart := false, narrowed := true }
def RecordErrorsUptoSaid : Prop := recordErrorsUptoRow.holds Try.pinned (OpenSpec.upto recordErrorsSpec)

/-- 'interleavelaw13.BlockReads', WHERE WHAT IT READS IS OF BULK AT MOST 1048576: true; the input reads as it did. -/
def blockReadsUptoRow : OpenClaim := { program := "ytlcmffbikiamjaa", sum := "5d9c4d614350f91c97b0157e49cee530e28876f1338dee50d5a33dfadb75b8e8", func := "interleave/interleavelaw13.BlockReads", spec := "blockReads", unfollowed := true, recurses := true, apart := false, narrowed := true }
def BlockReadsUptoSaid : Prop := blockReadsUptoRow.holds Try.pinned (OpenSpec.upto blockReadsSpec)

/-- 'interleavelaw15.CollectBlocks', WHERE WHAT IT READS IS OF BULK AT MOST 1048576: true; the input reads as it did. -/
def collectBlocksUptoRow : OpenClaim := { program := "ytlcmffbikiamjaa", sum := "5d9c4d614350f91c97b0157e49cee530e28876f1338dee50d5a33dfadb75b8e8", func := "interleave/interleavelaw15.CollectBlocks", spec := "collectBlocks", unfollowed := true, recurses := true, apart := false, narrowed := true }
def CollectBlocksUptoSaid : Prop := collectBlocksUptoRow.holds Try.pinned (OpenSpec.upto collectBlocksSpec)

/-- 'interleavelaw15.CollectTells', WHERE WHAT IT READS IS OF BULK AT MOST 1048576: true; the input reads as it did. -/
def collectTellsUptoRow : OpenClaim := { program := "ytlcmffbikiamjaa", sum := "5d9c4d614350f91c97b0157e49cee530e28876f1338dee50d5a33dfadb75b8e8", func := "interleave/interleavelaw15.CollectTells", spec := "collectTells", unfollowed := true, recurses := true, apart := false, narrowed := true }
def CollectTellsUptoSaid : Prop := collectTellsUptoRow.holds Try.pinned (OpenSpec.upto collectTellsSpec)

end Rows
end Go.Proofs.Ytlcmffbikiamjaa
