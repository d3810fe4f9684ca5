/-
  No cell of these rows narrows 'for every input' (looked for: loops, veiled, ifaces, maps, wideKeys, modest, calm, conditions, laid).
  DERIVED. THE GIVEN ROWS OF THIS SEAT. 8 by the template 'for every input the law returns true; each argument reads behind the call as it read before'; 0 by the template 'total and deterministic' (their statements: YtaiaoiochbpmfaaGreatTotals.lean).
  GIVEN WITH THE SEED: the statements are not yours to turn. If you find one false, say at which input.
  Laid BY PROGRAM, IN A SANDBOX (cutbox-rows.mjs): the forced cells as the released guide's own fill.sh prints them over the translation 7feb436dc21198df… (all of the seat's roots in one cut). By AI agents, Wed Nov 11 2026. No macro, syntax, notation, axiom, sorry.
-/
import Derived.Test.YtaiaoiochbpmfaaGreatChecked
import GoSem.Claim
import GoSem.ClaimJoined
import GoSem.ClaimMapViews
import Derived.JoinedTies
import Derived.KernelRfl
namespace Go.Proofs.YtaiaoiochbpmfaaGreat
/- THE CELL 'sum', in the pinned program and in every row, IS THE sha256 OF THE DUMP (.gsa) THAT YtaiaoiochbpmfaaGreatProg.lean LOADS. Nothing in Lean hashes anything: it is a label: what it is worth is what the hold of that sum in a sandbox is worth. -/
noncomputable def Tryz.pinned : Pinned := { name := "ytaiaoiochbpmfaagreat", sum := "7feb436dc21198dfe6123e1b72e794dfdaed7f3ea9dba15dc57ffa6ae4086f04", checked := Tryz.checked }
namespace Rows
def none {H : Type} : Left H := { results := [], args := [] }

/-- 'interleavelaw14.RecordMade': WHATEVER THE INPUT: true; the input reads as it did. -/
def recordMadeSpec : ChangeSpec := { name := "recordMade", fn := fun _ => fun
  | [d1, d2, d3] => { results := [.lit (.bool true)], args := [d1, d2, d3] }
  | _ => none }
def recordMadeRow : OpenClaim := { program := "ytaiaoiochbpmfaagreat", sum := "7feb436dc21198dfe6123e1b72e794dfdaed7f3ea9dba15dc57ffa6ae4086f04", func := "interleave/interleavelaw14.RecordMade", spec := "recordMade", unfollowed := true, recurses := true, apart := false }
def RecordMadeSaid : Prop := recordMadeRow.holds Tryz.pinned (OpenSpec.ofChange recordMadeSpec)

/-- ITS FALSE NEIGHBOUR: 'it returns false'. Refute it at one input. -/
def recordMadeWrong : ChangeSpec := { name := "recordMade", fn := fun _ => fun
  | [d1, d2, d3] => { results := [.lit (.bool false)], args := [d1, d2, d3] }
  | _ => none }
def RecordMadeWrongFalsely : Prop := recordMadeRow.holds Tryz.pinned (OpenSpec.ofChange recordMadeWrong)

/-- 'interleavelaw13.BlockCuts': WHATEVER THE INPUT: true; the input reads as it did. -/
def blockCutsSpec : ChangeSpec := { name := "blockCuts", fn := fun _ => fun
  | [d1, d2, d3, d4, d5] => { results := [.lit (.bool true)], args := [d1, d2, d3, d4, d5] }
  | _ => none }
def blockCutsRow : OpenClaim := { program := "ytaiaoiochbpmfaagreat", sum := "7feb436dc21198dfe6123e1b72e794dfdaed7f3ea9dba15dc57ffa6ae4086f04", func := "interleave/interleavelaw13.BlockCuts", spec := "blockCuts", unfollowed := true, recurses := true, apart := false }
def BlockCutsSaid : Prop := blockCutsRow.holds Tryz.pinned (OpenSpec.ofChange blockCutsSpec)

/-- ITS FALSE NEIGHBOUR: 'it returns false'. Refute it at one input. -/
def blockCutsWrong : ChangeSpec := { name := "blockCuts", fn := fun _ => fun
  | [d1, d2, d3, d4, d5] => { results := [.lit (.bool false)], args := [d1, d2, d3, d4, d5] }
  | _ => none }
def BlockCutsWrongFalsely : Prop := blockCutsRow.holds Tryz.pinned (OpenSpec.ofChange blockCutsWrong)

/-- 'interleavelaw13.BlockRoundTrip': WHATEVER THE INPUT: true; the input reads as it did. -/
def blockRoundTripSpec : ChangeSpec := { name := "blockRoundTrip", fn := fun _ => fun
  | [d1, d2, d3, d4, d5, d6] => { results := [.lit (.bool true)], args := [d1, d2, d3, d4, d5, d6] }
  | _ => none }
def blockRoundTripRow : OpenClaim := { program := "ytaiaoiochbpmfaagreat", sum := "7feb436dc21198dfe6123e1b72e794dfdaed7f3ea9dba15dc57ffa6ae4086f04", func := "interleave/interleavelaw13.BlockRoundTrip", spec := "blockRoundTrip", unfollowed := true, recurses := true, apart := false }
def BlockRoundTripSaid : Prop := blockRoundTripRow.holds Tryz.pinned (OpenSpec.ofChange blockRoundTripSpec)

/-- ITS FALSE NEIGHBOUR: 'it returns false'. Refute it at one input. -/
def blockRoundTripWrong : ChangeSpec := { name := "blockRoundTrip", fn := fun _ => fun
  | [d1, d2, d3, d4, d5, d6] => { results := [.lit (.bool false)], args := [d1, d2, d3, d4, d5, d6] }
  | _ => none }
def BlockRoundTripWrongFalsely : Prop := blockRoundTripRow.holds Tryz.pinned (OpenSpec.ofChange blockRoundTripWrong)

/-- 'interleavelaw13.BlockSpoilt': WHATEVER THE INPUT: true; the input reads as it did. -/
def blockSpoiltSpec : ChangeSpec := { name := "blockSpoilt", fn := fun _ => fun
  | [d1, d2, d3, d4, d5, d6, d7, d8] => { results := [.lit (.bool true)], args := [d1, d2, d3, d4, d5, d6, d7, d8] }
  | _ => none }
def blockSpoiltRow : OpenClaim := { program := "ytaiaoiochbpmfaagreat", sum := "7feb436dc21198dfe6123e1b72e794dfdaed7f3ea9dba15dc57ffa6ae4086f04", func := "interleave/interleavelaw13.BlockSpoilt", spec := "blockSpoilt", unfollowed := true, recurses := true, apart := false }
def BlockSpoiltSaid : Prop := blockSpoiltRow.holds Tryz.pinned (OpenSpec.ofChange blockSpoiltSpec)

/-- ITS FALSE NEIGHBOUR: 'it returns false'. Refute it at one input. -/
def blockSpoiltWrong : ChangeSpec := { name := "blockSpoilt", fn := fun _ => fun
  | [d1, d2, d3, d4, d5, d6, d7, d8] => { results := [.lit (.bool false)], args := [d1, d2, d3, d4, d5, d6, d7, d8] }
  | _ => none }
def BlockSpoiltWrongFalsely : Prop := blockSpoiltRow.holds Tryz.pinned (OpenSpec.ofChange blockSpoiltWrong)

/-- 'interleavelaw13.BlockDamaged': WHATEVER THE INPUT: true; the input reads as it did. -/
def blockDamagedSpec : ChangeSpec := { name := "blockDamaged", fn := fun _ => fun
  | [d1, d2, d3, d4, d5, d6] => { results := [.lit (.bool true)], args := [d1, d2, d3, d4, d5, d6] }
  | _ => none }
def blockDamagedRow : OpenClaim := { program := "ytaiaoiochbpmfaagreat", sum := "7feb436dc21198dfe6123e1b72e794dfdaed7f3ea9dba15dc57ffa6ae4086f04", func := "interleave/interleavelaw13.BlockDamaged", spec := "blockDamaged", unfollowed := true, recurses := true, apart := false }
def BlockDamagedSaid : Prop := blockDamagedRow.holds Tryz.pinned (OpenSpec.ofChange blockDamagedSpec)

/-- ITS FALSE NEIGHBOUR: 'it returns false'. Refute it at one input. -/
def blockDamagedWrong : ChangeSpec := { name := "blockDamaged", fn := fun _ => fun
  | [d1, d2, d3, d4, d5, d6] => { results := [.lit (.bool false)], args := [d1, d2, d3, d4, d5, d6] }
  | _ => none }
def BlockDamagedWrongFalsely : Prop := blockDamagedRow.holds Tryz.pinned (OpenSpec.ofChange blockDamagedWrong)

/-- 'interleavelaw14.RecordGrows': WHATEVER THE INPUT: true; the input reads as it did. -/
def recordGrowsSpec : ChangeSpec := { name := "recordGrows", fn := fun _ => fun
  | [d1, d2, d3] => { results := [.lit (.bool true)], args := [d1, d2, d3] }
  | _ => none }
def recordGrowsRow : OpenClaim := { program := "ytaiaoiochbpmfaagreat", sum := "7feb436dc21198dfe6123e1b72e794dfdaed7f3ea9dba15dc57ffa6ae4086f04", func := "interleave/interleavelaw14.RecordGrows", spec := "recordGrows", unfollowed := true, recurses := true, apart := false }
def RecordGrowsSaid : Prop := recordGrowsRow.holds Tryz.pinned (OpenSpec.ofChange recordGrowsSpec)

/-- ITS FALSE NEIGHBOUR: 'it returns false'. Refute it at one input. -/
def recordGrowsWrong : ChangeSpec := { name := "recordGrows", fn := fun _ => fun
  | [d1, d2, d3] => { results := [.lit (.bool false)], args := [d1, d2, d3] }
  | _ => none }
def RecordGrowsWrongFalsely : Prop := recordGrowsRow.holds Tryz.pinned (OpenSpec.ofChange recordGrowsWrong)

/-- 'interleavelaw14.RecordCuts': WHATEVER THE INPUT: true; the input reads as it did. -/
def recordCutsSpec : ChangeSpec := { name := "recordCuts", fn := fun _ => fun
  | [d1, d2, d3] => { results := [.lit (.bool true)], args := [d1, d2, d3] }
  | _ => none }
def recordCutsRow : OpenClaim := { program := "ytaiaoiochbpmfaagreat", sum := "7feb436dc21198dfe6123e1b72e794dfdaed7f3ea9dba15dc57ffa6ae4086f04", func := "interleave/interleavelaw14.RecordCuts", spec := "recordCuts", unfollowed := true, recurses := true, apart := false }
def RecordCutsSaid : Prop := recordCutsRow.holds Tryz.pinned (OpenSpec.ofChange recordCutsSpec)

/-- ITS FALSE NEIGHBOUR: 'it returns false'. Refute it at one input. -/
def recordCutsWrong : ChangeSpec := { name := "recordCuts", fn := fun _ => fun
  | [d1, d2, d3] => { results := [.lit (.bool false)], args := [d1, d2, d3] }
  | _ => none }
def RecordCutsWrongFalsely : Prop := recordCutsRow.holds Tryz.pinned (OpenSpec.ofChange recordCutsWrong)

/-- 'interleavelaw14.RecordOwn': WHATEVER THE INPUT: true; the input reads as it did. -/
def recordOwnSpec : ChangeSpec := { name := "recordOwn", fn := fun _ => fun
  | [d1, d2, d3, d4] => { results := [.lit (.bool true)], args := [d1, d2, d3, d4] }
  | _ => none }
def recordOwnRow : OpenClaim := { program := "ytaiaoiochbpmfaagreat", sum := "7feb436dc21198dfe6123e1b72e794dfdaed7f3ea9dba15dc57ffa6ae4086f04", func := "interleave/interleavelaw14.RecordOwn", spec := "recordOwn", unfollowed := true, recurses := true, apart := false }
def RecordOwnSaid : Prop := recordOwnRow.holds Tryz.pinned (OpenSpec.ofChange recordOwnSpec)

/-- ITS FALSE NEIGHBOUR: 'it returns false'. Refute it at one input. -/
def recordOwnWrong : ChangeSpec := { name := "recordOwn", fn := fun _ => fun
  | [d1, d2, d3, d4] => { results := [.lit (.bool false)], args := [d1, d2, d3, d4] }
  | _ => none }
def RecordOwnWrongFalsely : Prop := recordOwnRow.holds Tryz.pinned (OpenSpec.ofChange recordOwnWrong)

/- THE SECOND FORM. 'bulk': how many values and letters a reading holds, each counted each time it is reached (what is shared counts as often as it is met; a slice's spare places count too). A statement '..UptoSaid' is the law's where the arguments, and the package variables that the reading takes, are together of bulk at most 1048576: NARROWER than '..Said'. Prove '..Said' where nothing that the law and all that it calls make is longer than what came in: it says more and counts as full. Else prove '..UptoSaid'. A law counts once. -/
mutual
def uptoBulk {H : Type} : DataW H → Nat
  | .lit (.string bytes) => bytes.length + 1
  | .lit _ => 1
  | .nil => 1
  | .ptr d => uptoBulk d + 1
  | .slice elems spare => uptoBulkAll elems + uptoBulkAll spare + 1
  | .agg parts => uptoBulkAll parts + 1
  | .iface _ d => uptoBulk d + 1
  | .map entries => uptoBulkEntries entries + 1
  | .held _ => 1
def uptoBulkAll {H : Type} : List (DataW H) → Nat
  | [] => 0
  | d :: r => uptoBulk d + uptoBulkAll r
def uptoBulkEntries {H : Type} : List (Lit × DataW H) → Nat
  | [] => 0
  | x :: r => uptoBulkEntry x + uptoBulkEntries r
def uptoBulkEntry {H : Type} : Lit × DataW H → Nat
  | (.string bytes, d) => bytes.length + uptoBulk d + 1
  | (_, d) => uptoBulk d + 1
 end
def uptoSmall : (H : Type) → List (DataW H) → Bool := fun _ ds => decide (uptoBulkAll ds ≤ 1048576)
def OpenSpec.upto (s : _root_.Go.ChangeSpec) : _root_.Go.OpenSpec := { _root_.Go.OpenSpec.ofChange s with cond := some uptoSmall }

/-- 'interleavelaw14.RecordMade', WHERE WHAT IT READS IS OF BULK AT MOST 1048576: true; the input reads as it did. -/
def recordMadeUptoRow : OpenClaim := { program := "ytaiaoiochbpmfaagreat", sum := "7feb436dc21198dfe6123e1b72e794dfdaed7f3ea9dba15dc57ffa6ae4086f04", func := "interleave/interleavelaw14.RecordMade", spec := "recordMade", unfollowed := true, recurses := true, apart := false, narrowed := true }
def RecordMadeUptoSaid : Prop := recordMadeUptoRow.holds Tryz.pinned (OpenSpec.upto recordMadeSpec)

/-- 'interleavelaw13.BlockCuts', WHERE WHAT IT READS IS OF BULK AT MOST 1048576: true; the input reads as it did. -/
def blockCutsUptoRow : OpenClaim := { program := "ytaiaoiochbpmfaagreat", sum := "7feb436dc21198dfe6123e1b72e794dfdaed7f3ea9dba15dc57ffa6ae4086f04", func := "interleave/interleavelaw13.BlockCuts", spec := "blockCuts", unfollowed := true, recurses := true, apart := false, narrowed := true }
def BlockCutsUptoSaid : Prop := blockCutsUptoRow.holds Tryz.pinned (OpenSpec.upto blockCutsSpec)

/-- 'interleavelaw13.BlockRoundTrip', WHERE WHAT IT READS IS OF BULK AT MOST 1048576: true; the input reads as it did. -/
def blockRoundTripUptoRow : OpenClaim := { program := "ytaiaoiochbpmfaagreat", sum := "7feb436dc21198dfe6123e1b72e794dfdaed7f3ea9dba15dc57ffa6ae4086f04", func := "interleave/interleavelaw13.BlockRoundTrip", spec := "blockRoundTrip", unfollowed := true, recurses := true, apart := false, narrowed := true }
def BlockRoundTripUptoSaid : Prop := blockRoundTripUptoRow.holds Tryz.pinned (OpenSpec.upto blockRoundTripSpec)

/-- 'interleavelaw13.BlockSpoilt', WHERE WHAT IT READS IS OF BULK AT MOST 1048576: true; the input reads as it did. -/
def blockSpoiltUptoRow : OpenClaim := { program := "ytaiaoiochbpmfaagreat", sum := "7feb436dc21198dfe6123e1b72e794dfdaed7f3ea9dba15dc57ffa6ae4086f04", func := "interleave/interleavelaw13.BlockSpoilt", spec := "blockSpoilt", unfollowed := true, recurses := true, apart := false, narrowed := true }
def BlockSpoiltUptoSaid : Prop := blockSpoiltUptoRow.holds Tryz.pinned (OpenSpec.upto blockSpoiltSpec)

/-- 'interleavelaw13.BlockDamaged', WHERE WHAT IT READS IS OF BULK AT MOST 1048576: true; the input reads as it did. -/
def blockDamagedUptoRow : OpenClaim := { program := "ytaiaoiochbpmfaagreat", sum := "7feb436dc21198dfe6123e1b72e794dfdaed7f3ea9dba15dc57ffa6ae4086f04", func := "interleave/interleavelaw13.BlockDamaged", spec := "blockDamaged", unfollowed := true, recurses := true, apart := false, narrowed := true }
def BlockDamagedUptoSaid : Prop := blockDamagedUptoRow.holds Tryz.pinned (OpenSpec.upto blockDamagedSpec)

/-- 'interleavelaw14.RecordGrows', WHERE WHAT IT READS IS OF BULK AT MOST 1048576: true; the input reads as it did. -/
def recordGrowsUptoRow : OpenClaim := { program := "ytaiaoiochbpmfaagreat", sum := "7feb436dc21198dfe6123e1b72e794dfdaed7f3ea9dba15dc57ffa6ae4086f04", func := "interleave/interleavelaw14.RecordGrows", spec := "recordGrows", unfollowed := true, recurses := true, apart := false, narrowed := true }
def RecordGrowsUptoSaid : Prop := recordGrowsUptoRow.holds Tryz.pinned (OpenSpec.upto recordGrowsSpec)

/-- 'interleavelaw14.RecordCuts', WHERE WHAT IT READS IS OF BULK AT MOST 1048576: true; the input reads as it did. -/
def recordCutsUptoRow : OpenClaim := { program := "ytaiaoiochbpmfaagreat", sum := "7feb436dc21198dfe6123e1b72e794dfdaed7f3ea9dba15dc57ffa6ae4086f04", func := "interleave/interleavelaw14.RecordCuts", spec := "recordCuts", unfollowed := true, recurses := true, apart := false, narrowed := true }
def RecordCutsUptoSaid : Prop := recordCutsUptoRow.holds Tryz.pinned (OpenSpec.upto recordCutsSpec)

/-- 'interleavelaw14.RecordOwn', WHERE WHAT IT READS IS OF BULK AT MOST 1048576: true; the input reads as it did. -/
def recordOwnUptoRow : OpenClaim := { program := "ytaiaoiochbpmfaagreat", sum := "7feb436dc21198dfe6123e1b72e794dfdaed7f3ea9dba15dc57ffa6ae4086f04", func := "interleave/interleavelaw14.RecordOwn", spec := "recordOwn", unfollowed := true, recurses := true, apart := false, narrowed := true }
def RecordOwnUptoSaid : Prop := recordOwnUptoRow.holds Tryz.pinned (OpenSpec.upto recordOwnSpec)

end Rows
end Go.Proofs.YtaiaoiochbpmfaaGreat
