/-
  No cell of these rows narrows 'for every input' (looked for: loops, veiled, ifaces, maps, wideKeys, modest, calm, conditions, laid).
  DERIVED. THE GIVEN ROWS OF THIS SEAT. 7 by the template 'for every input the law returns true; each argument reads behind the call as it read before'; 0 by the template 'total and deterministic' (their statements: YtlofjhcjjcohfaaTotals.lean).
  GIVEN WITH THE SEED: the statements are not yours to turn. If you find one false, say at which input.
  Laid BY PROGRAM, IN A SANDBOX (cutbox-rows.mjs): the forced cells as the released guide's own fill.sh prints them over the translation b8b738811f9f42e4… (all of the seat's roots in one cut). By AI agents, Wed Nov 11 2026. No macro, syntax, notation, axiom, sorry.
-/
import Derived.Test.YtlofjhcjjcohfaaChecked
import GoSem.Claim
import GoSem.ClaimJoined
import GoSem.ClaimMapViews
import Derived.JoinedTies
import Derived.KernelRfl
namespace Go.Proofs.Ytlofjhcjjcohfaa
/- THE CELL 'sum', in the pinned program and in every row, IS THE sha256 OF THE DUMP (.gsa) THAT YtlofjhcjjcohfaaProg.lean LOADS. Nothing in Lean hashes anything: it is a label: what it is worth is what the hold of that sum in a sandbox is worth. -/
noncomputable def Try.pinned : Pinned := { name := "ytlofjhcjjcohfaa", sum := "b8b738811f9f42e47b3a036a4933a295ba0f59a484af185d8f6f6401cf4caaa4", checked := Try.checked }
namespace Rows
def none {H : Type} : Left H := { results := [], args := [] }

/-- 'interleavelaw11.EventRoundTrip': WHATEVER THE INPUT: true; the input reads as it did. -/
def eventRoundTripSpec : ChangeSpec := { name := "eventRoundTrip", fn := fun _ => fun
  | [d1, d2, d3, d4] => { results := [.lit (.bool true)], args := [d1, d2, d3, d4] }
  | _ => none }
def eventRoundTripRow : OpenClaim := { program := "ytlofjhcjjcohfaa", sum := "b8b738811f9f42e47b3a036a4933a295ba0f59a484af185d8f6f6401cf4caaa4", func := "interleave/interleavelaw11.EventRoundTrip", spec := "eventRoundTrip", apart := false }
def EventRoundTripSaid : Prop := eventRoundTripRow.holds Try.pinned (OpenSpec.ofChange eventRoundTripSpec)

/-- ITS FALSE NEIGHBOUR: 'it returns false'. Refute it at one input. -/
def eventRoundTripWrong : ChangeSpec := { name := "eventRoundTrip", fn := fun _ => fun
  | [d1, d2, d3, d4] => { results := [.lit (.bool false)], args := [d1, d2, d3, d4] }
  | _ => none }
def EventRoundTripWrongFalsely : Prop := eventRoundTripRow.holds Try.pinned (OpenSpec.ofChange eventRoundTripWrong)

/-- 'interleavelaw13.BlockTells': WHATEVER THE INPUT: true; the input reads as it did. -/
def blockTellsSpec : ChangeSpec := { name := "blockTells", fn := fun _ => fun
  | [d] => { results := [.lit (.bool true)], args := [d] }
  | _ => none }
def blockTellsRow : OpenClaim := { program := "ytlofjhcjjcohfaa", sum := "b8b738811f9f42e47b3a036a4933a295ba0f59a484af185d8f6f6401cf4caaa4", func := "interleave/interleavelaw13.BlockTells", spec := "blockTells", unfollowed := true, recurses := true, apart := false }
def BlockTellsSaid : Prop := blockTellsRow.holds Try.pinned (OpenSpec.ofChange blockTellsSpec)

/-- ITS FALSE NEIGHBOUR: 'it returns false'. Refute it at one input. -/
def blockTellsWrong : ChangeSpec := { name := "blockTells", fn := fun _ => fun
  | [d] => { results := [.lit (.bool false)], args := [d] }
  | _ => none }
def BlockTellsWrongFalsely : Prop := blockTellsRow.holds Try.pinned (OpenSpec.ofChange blockTellsWrong)

/-- 'interleavelaw14.RecordTells': WHATEVER THE INPUT: true; the input reads as it did. -/
def recordTellsSpec : ChangeSpec := { name := "recordTells", fn := fun _ => fun
  | [d1, d2, d3] => { results := [.lit (.bool true)], args := [d1, d2, d3] }
  | _ => none }
def recordTellsRow : OpenClaim := { program := "ytlofjhcjjcohfaa", sum := "b8b738811f9f42e47b3a036a4933a295ba0f59a484af185d8f6f6401cf4caaa4", func := "interleave/interleavelaw14.RecordTells", spec := "recordTells", unfollowed := true, recurses := true, apart := false }
def RecordTellsSaid : Prop := recordTellsRow.holds Try.pinned (OpenSpec.ofChange recordTellsSpec)

/-- ITS FALSE NEIGHBOUR: 'it returns false'. Refute it at one input. -/
def recordTellsWrong : ChangeSpec := { name := "recordTells", fn := fun _ => fun
  | [d1, d2, d3] => { results := [.lit (.bool false)], args := [d1, d2, d3] }
  | _ => none }
def RecordTellsWrongFalsely : Prop := recordTellsRow.holds Try.pinned (OpenSpec.ofChange recordTellsWrong)

/-- 'interleavelaw14.RecordErrors': WHATEVER THE INPUT: true; the input reads as it did. -/
def recordErrorsSpec : ChangeSpec := { name := "recordErrors", fn := fun _ => fun
  | [] => { results := [.lit (.bool true)], args := [] }
  | _ => none }
def recordErrorsRow : OpenClaim := { program := "ytlofjhcjjcohfaa", sum := "b8b738811f9f42e47b3a036a4933a295ba0f59a484af185d8f6f6401cf4caaa4", func := "interleave/interleavelaw14.RecordErrors", spec := "recordErrors", unfollowed := true, recurses := true, apart := false }
def RecordErrorsSaid : Prop := recordErrorsRow.holds Try.pinned (OpenSpec.ofChange recordErrorsSpec)

/-- ITS FALSE NEIGHBOUR: 'it returns false'. Refute it at one input. -/
def recordErrorsWrong : ChangeSpec := { name := "recordErrors", fn := fun _ => fun
  | [] => { results := [.lit (.bool false)], args := [] }
  | _ => none }
def RecordErrorsWrongFalsely : Prop := recordErrorsRow.holds Try.pinned (OpenSpec.ofChange recordErrorsWrong)

/-- 'interleavelaw13.BlockReads': WHATEVER THE INPUT: true; the input reads as it did. -/
def blockReadsSpec : ChangeSpec := { name := "blockReads", fn := fun _ => fun
  | [d] => { results := [.lit (.bool true)], args := [d] }
  | _ => none }
def blockReadsRow : OpenClaim := { program := "ytlofjhcjjcohfaa", sum := "b8b738811f9f42e47b3a036a4933a295ba0f59a484af185d8f6f6401cf4caaa4", func := "interleave/interleavelaw13.BlockReads", spec := "blockReads", unfollowed := true, recurses := true, apart := false }
def BlockReadsSaid : Prop := blockReadsRow.holds Try.pinned (OpenSpec.ofChange blockReadsSpec)

/-- ITS FALSE NEIGHBOUR: 'it returns false'. Refute it at one input. -/
def blockReadsWrong : ChangeSpec := { name := "blockReads", fn := fun _ => fun
  | [d] => { results := [.lit (.bool false)], args := [d] }
  | _ => none }
def BlockReadsWrongFalsely : Prop := blockReadsRow.holds Try.pinned (OpenSpec.ofChange blockReadsWrong)

/-- 'interleavelaw15.CollectBlocks': WHATEVER THE INPUT: true; the input reads as it did. -/
def collectBlocksSpec : ChangeSpec := { name := "collectBlocks", fn := fun _ => fun
  | [d1, d2] => { results := [.lit (.bool true)], args := [d1, d2] }
  | _ => none }
def collectBlocksRow : OpenClaim := { program := "ytlofjhcjjcohfaa", sum := "b8b738811f9f42e47b3a036a4933a295ba0f59a484af185d8f6f6401cf4caaa4", func := "interleave/interleavelaw15.CollectBlocks", spec := "collectBlocks", unfollowed := true, recurses := true, apart := false }
def CollectBlocksSaid : Prop := collectBlocksRow.holds Try.pinned (OpenSpec.ofChange collectBlocksSpec)

/-- ITS FALSE NEIGHBOUR: 'it returns false'. Refute it at one input. -/
def collectBlocksWrong : ChangeSpec := { name := "collectBlocks", fn := fun _ => fun
  | [d1, d2] => { results := [.lit (.bool false)], args := [d1, d2] }
  | _ => none }
def CollectBlocksWrongFalsely : Prop := collectBlocksRow.holds Try.pinned (OpenSpec.ofChange collectBlocksWrong)

/-- 'interleavelaw15.CollectTells': WHATEVER THE INPUT: true; the input reads as it did. -/
def collectTellsSpec : ChangeSpec := { name := "collectTells", fn := fun _ => fun
  | [d1, d2] => { results := [.lit (.bool true)], args := [d1, d2] }
  | _ => none }
def collectTellsRow : OpenClaim := { program := "ytlofjhcjjcohfaa", sum := "b8b738811f9f42e47b3a036a4933a295ba0f59a484af185d8f6f6401cf4caaa4", func := "interleave/interleavelaw15.CollectTells", spec := "collectTells", unfollowed := true, recurses := true, apart := false }
def CollectTellsSaid : Prop := collectTellsRow.holds Try.pinned (OpenSpec.ofChange collectTellsSpec)

/-- ITS FALSE NEIGHBOUR: 'it returns false'. Refute it at one input. -/
def collectTellsWrong : ChangeSpec := { name := "collectTells", fn := fun _ => fun
  | [d1, d2] => { results := [.lit (.bool false)], args := [d1, d2] }
  | _ => none }
def CollectTellsWrongFalsely : Prop := collectTellsRow.holds Try.pinned (OpenSpec.ofChange collectTellsWrong)

/- THE SECOND FORM. 'bulk': how many values and letters a reading holds, each counted each time it is reached (what is shared counts as often as it is met; a slice's spare places count too). A statement '..UptoSaid' is the law's where the arguments, and the package variables that the reading takes, are together of bulk at most 1048576: NARROWER than '..Said'. Prove '..Said' where nothing that the law and all that it calls make is longer than what came in: it says more and counts as full. Else prove '..UptoSaid'. A law counts once. -/
mutual
def uptoBulk {H : Type} : DataW H → Nat
  | .lit (.string bytes) => bytes.length + 1
  | .lit _ => 1
  | .nil => 1
  | .ptr d => uptoBulk d + 1
  | .slice elems spare => uptoBulkAll elems + uptoBulkAll spare + 1
  | .agg parts => uptoBulkAll parts + 1
  | .iface _ d => uptoBulk d + 1
  | .map entries => uptoBulkEntries entries + 1
  | .held _ => 1
def uptoBulkAll {H : Type} : List (DataW H) → Nat
  | [] => 0
  | d :: r => uptoBulk d + uptoBulkAll r
def uptoBulkEntries {H : Type} : List (Lit × DataW H) → Nat
  | [] => 0
  | x :: r => uptoBulkEntry x + uptoBulkEntries r
def uptoBulkEntry {H : Type} : Lit × DataW H → Nat
  | (.string bytes, d) => bytes.length + uptoBulk d + 1
  | (_, d) => uptoBulk d + 1
 end
def uptoSmall : (H : Type) → List (DataW H) → Bool := fun _ ds => decide (uptoBulkAll ds ≤ 1048576)
def OpenSpec.upto (s : _root_.Go.ChangeSpec) : _root_.Go.OpenSpec := { _root_.Go.OpenSpec.ofChange s with cond := some uptoSmall }

/-- 'interleavelaw11.EventRoundTrip', WHERE WHAT IT READS IS OF BULK AT MOST 1048576: true; the input reads as it did. -/
def eventRoundTripUptoRow : OpenClaim := { program := "ytlofjhcjjcohfaa", sum := "b8b738811f9f42e47b3a036a4933a295ba0f59a484af185d8f6f6401cf4caaa4", func := "interleave/interleavelaw11.EventRoundTrip", spec := "eventRoundTrip", apart := false, narrowed := true }
def EventRoundTripUptoSaid : Prop := eventRoundTripUptoRow.holds Try.pinned (OpenSpec.upto eventRoundTripSpec)

/-- 'interleavelaw13.BlockTells', WHERE WHAT IT READS IS OF BULK AT MOST 1048576: true; the input reads as it did. -/
def blockTellsUptoRow : OpenClaim := { program := "ytlofjhcjjcohfaa", sum := "b8b738811f9f42e47b3a036a4933a295ba0f59a484af185d8f6f6401cf4caaa4", func := "interleave/interleavelaw13.BlockTells", spec := "blockTells", unfollowed := true, recurses := true, apart := false, narrowed := true }
def BlockTellsUptoSaid : Prop := blockTellsUptoRow.holds Try.pinned (OpenSpec.upto blockTellsSpec)

/-- 'interleavelaw14.RecordTells', WHERE WHAT IT READS IS OF BULK AT MOST 1048576: true; the input reads as it did. -/
def recordTellsUptoRow : OpenClaim := { program := "ytlofjhcjjcohfaa", sum := "b8b738811f9f42e47b3a036a4933a295ba0f59a484af185d8f6f6401cf4caaa4", func := "interleave/interleavelaw14.RecordTells", spec := "recordTells", unfollowed := true, recurses := true, apart := false, narrowed := true }
def RecordTellsUptoSaid : Prop := recordTellsUptoRow.holds Try.pinned (OpenSpec.upto recordTellsSpec)

/-- 'interleavelaw14.RecordErrors', WHERE WHAT IT READS IS OF BULK AT MOST 1048576: true; the input reads as it did. -/
def recordErrorsUptoRow : OpenClaim := { program := "ytlofjhcjjcohfaa", sum := "b8b738811f9f42e47b3a036a4933a295ba0f59a484af185d8f6f6401cf4caaa4", func := "interleave/interleavelaw14.RecordErrors", spec := "recordErrors", unfollowed := true, recurses := true, apart := false, narrowed := true }
def RecordErrorsUptoSaid : Prop := recordErrorsUptoRow.holds Try.pinned (OpenSpec.upto recordErrorsSpec)

/-- 'interleavelaw13.BlockReads', WHERE WHAT IT READS IS OF BULK AT MOST 1048576: true; the input reads as it did. -/
def blockReadsUptoRow : OpenClaim := { program := "ytlofjhcjjcohfaa", sum := "b8b738811f9f42e47b3a036a4933a295ba0f59a484af185d8f6f6401cf4caaa4", func := "interleave/interleavelaw13.BlockReads", spec := "blockReads", unfollowed := true, recurses := true, apart := false, narrowed := true }
def BlockReadsUptoSaid : Prop := blockReadsUptoRow.holds Try.pinned (OpenSpec.upto blockReadsSpec)

/-- 'interleavelaw15.CollectBlocks', WHERE WHAT IT READS IS OF BULK AT MOST 1048576: true; the input reads as it did. -/
def collectBlocksUptoRow : OpenClaim := { program := "ytlofjhcjjcohfaa", sum := "b8b738811f9f42e47b3a036a4933a295ba0f59a484af185d8f6f6401cf4caaa4", func := "interleave/interleavelaw15.CollectBlocks", spec := "collectBlocks", unfollowed := true, recurses := true, apart := false, narrowed := true }
def CollectBlocksUptoSaid : Prop := collectBlocksUptoRow.holds Try.pinned (OpenSpec.upto collectBlocksSpec)

/-- 'interleavelaw15.CollectTells', WHERE WHAT IT READS IS OF BULK AT MOST 1048576: true; the input reads as it did. -/
def collectTellsUptoRow : OpenClaim := { program := "ytlofjhcjjcohfaa", sum := "b8b738811f9f42e47b3a036a4933a295ba0f59a484af185d8f6f6401cf4caaa4", func := "interleave/interleavelaw15.CollectTells", spec := "collectTells", unfollowed := true, recurses := true, apart := false, narrowed := true }
def CollectTellsUptoSaid : Prop := collectTellsUptoRow.holds Try.pinned (OpenSpec.upto collectTellsSpec)

end Rows
end Go.Proofs.Ytlofjhcjjcohfaa
