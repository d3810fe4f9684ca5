/-
  No cell of these rows narrows 'for every input' (looked for: loops, veiled, ifaces, maps, wideKeys, modest, calm, conditions, laid).
  DERIVED. THE GIVEN ROWS OF THIS SEAT. 6 by the template 'for every input the law returns true; each argument reads behind the call as it read before'; 0 by the template 'total and deterministic' (their statements: YtfbkkgfkhhibfaaGreatTotals.lean).
  GIVEN WITH THE SEED: the statements are not yours to turn. If you find one false, say at which input.
  Laid BY PROGRAM, IN A SANDBOX (cutbox-rows.mjs): the forced cells as the released guide's own fill.sh prints them over the translation ebee986b9b230e07… (all of the seat's roots in one cut). By AI agents, Wed Nov 11 2026. No macro, syntax, notation, axiom, sorry.
-/
import Derived.Test.YtfbkkgfkhhibfaaGreatChecked
import GoSem.Claim
import GoSem.ClaimJoined
import GoSem.ClaimMapViews
import Derived.JoinedTies
import Derived.KernelRfl
namespace Go.Proofs.YtfbkkgfkhhibfaaGreat
/- THE CELL 'sum', in the pinned program and in every row, IS THE sha256 OF THE DUMP (.gsa) THAT YtfbkkgfkhhibfaaGreatProg.lean LOADS. Nothing in Lean hashes anything: it is a label: what it is worth is what the hold of that sum in a sandbox is worth. -/
noncomputable def Tryz.pinned : Pinned := { name := "ytfbkkgfkhhibfaagreat", sum := "ebee986b9b230e076916e54a603bb8f4ae6648bb0db060d5b66de7e120950fe9", checked := Tryz.checked }
namespace Rows
def none {H : Type} : Left H := { results := [], args := [] }

/-- 'interleavelaw14.RecordOwn': WHATEVER THE INPUT: true; the input reads as it did. -/
def recordOwnSpec : ChangeSpec := { name := "recordOwn", fn := fun _ => fun
  | [d1, d2, d3, d4] => { results := [.lit (.bool true)], args := [d1, d2, d3, d4] }
  | _ => none }
def recordOwnRow : OpenClaim := { program := "ytfbkkgfkhhibfaagreat", sum := "ebee986b9b230e076916e54a603bb8f4ae6648bb0db060d5b66de7e120950fe9", func := "interleave/interleavelaw14.RecordOwn", spec := "recordOwn", unfollowed := true, recurses := true, apart := false }
def RecordOwnSaid : Prop := recordOwnRow.holds Tryz.pinned (OpenSpec.ofChange recordOwnSpec)

/-- ITS FALSE NEIGHBOUR: 'it returns false'. Refute it at one input. -/
def recordOwnWrong : ChangeSpec := { name := "recordOwn", fn := fun _ => fun
  | [d1, d2, d3, d4] => { results := [.lit (.bool false)], args := [d1, d2, d3, d4] }
  | _ => none }
def RecordOwnWrongFalsely : Prop := recordOwnRow.holds Tryz.pinned (OpenSpec.ofChange recordOwnWrong)

/-- 'interleavelaw15.CollectPrefix': WHATEVER THE INPUT: true; the input reads as it did. -/
def collectPrefixSpec : ChangeSpec := { name := "collectPrefix", fn := fun _ => fun
  | [d1, d2, d3] => { results := [.lit (.bool true)], args := [d1, d2, d3] }
  | _ => none }
def collectPrefixRow : OpenClaim := { program := "ytfbkkgfkhhibfaagreat", sum := "ebee986b9b230e076916e54a603bb8f4ae6648bb0db060d5b66de7e120950fe9", func := "interleave/interleavelaw15.CollectPrefix", spec := "collectPrefix", unfollowed := true, recurses := true, apart := false }
def CollectPrefixSaid : Prop := collectPrefixRow.holds Tryz.pinned (OpenSpec.ofChange collectPrefixSpec)

/-- ITS FALSE NEIGHBOUR: 'it returns false'. Refute it at one input. -/
def collectPrefixWrong : ChangeSpec := { name := "collectPrefix", fn := fun _ => fun
  | [d1, d2, d3] => { results := [.lit (.bool false)], args := [d1, d2, d3] }
  | _ => none }
def CollectPrefixWrongFalsely : Prop := collectPrefixRow.holds Tryz.pinned (OpenSpec.ofChange collectPrefixWrong)

/-- 'interleavelaw15.CollectWhole': WHATEVER THE INPUT: true; the input reads as it did. -/
def collectWholeSpec : ChangeSpec := { name := "collectWhole", fn := fun _ => fun
  | [d1, d2, d3] => { results := [.lit (.bool true)], args := [d1, d2, d3] }
  | _ => none }
def collectWholeRow : OpenClaim := { program := "ytfbkkgfkhhibfaagreat", sum := "ebee986b9b230e076916e54a603bb8f4ae6648bb0db060d5b66de7e120950fe9", func := "interleave/interleavelaw15.CollectWhole", spec := "collectWhole", unfollowed := true, recurses := true, apart := false }
def CollectWholeSaid : Prop := collectWholeRow.holds Tryz.pinned (OpenSpec.ofChange collectWholeSpec)

/-- ITS FALSE NEIGHBOUR: 'it returns false'. Refute it at one input. -/
def collectWholeWrong : ChangeSpec := { name := "collectWhole", fn := fun _ => fun
  | [d1, d2, d3] => { results := [.lit (.bool false)], args := [d1, d2, d3] }
  | _ => none }
def CollectWholeWrongFalsely : Prop := collectWholeRow.holds Tryz.pinned (OpenSpec.ofChange collectWholeWrong)

/-- 'interleavelaw15.CollectOrder': WHATEVER THE INPUT: true; the input reads as it did. -/
def collectOrderSpec : ChangeSpec := { name := "collectOrder", fn := fun _ => fun
  | [d1, d2, d3, d4] => { results := [.lit (.bool true)], args := [d1, d2, d3, d4] }
  | _ => none }
def collectOrderRow : OpenClaim := { program := "ytfbkkgfkhhibfaagreat", sum := "ebee986b9b230e076916e54a603bb8f4ae6648bb0db060d5b66de7e120950fe9", func := "interleave/interleavelaw15.CollectOrder", spec := "collectOrder", unfollowed := true, recurses := true, apart := false }
def CollectOrderSaid : Prop := collectOrderRow.holds Tryz.pinned (OpenSpec.ofChange collectOrderSpec)

/-- ITS FALSE NEIGHBOUR: 'it returns false'. Refute it at one input. -/
def collectOrderWrong : ChangeSpec := { name := "collectOrder", fn := fun _ => fun
  | [d1, d2, d3, d4] => { results := [.lit (.bool false)], args := [d1, d2, d3, d4] }
  | _ => none }
def CollectOrderWrongFalsely : Prop := collectOrderRow.holds Tryz.pinned (OpenSpec.ofChange collectOrderWrong)

/-- 'interleavelaw15.CollectDamage': WHATEVER THE INPUT: true; the input reads as it did. -/
def collectDamageSpec : ChangeSpec := { name := "collectDamage", fn := fun _ => fun
  | [d1, d2, d3, d4, d5, d6] => { results := [.lit (.bool true)], args := [d1, d2, d3, d4, d5, d6] }
  | _ => none }
def collectDamageRow : OpenClaim := { program := "ytfbkkgfkhhibfaagreat", sum := "ebee986b9b230e076916e54a603bb8f4ae6648bb0db060d5b66de7e120950fe9", func := "interleave/interleavelaw15.CollectDamage", spec := "collectDamage", unfollowed := true, recurses := true, apart := false }
def CollectDamageSaid : Prop := collectDamageRow.holds Tryz.pinned (OpenSpec.ofChange collectDamageSpec)

/-- ITS FALSE NEIGHBOUR: 'it returns false'. Refute it at one input. -/
def collectDamageWrong : ChangeSpec := { name := "collectDamage", fn := fun _ => fun
  | [d1, d2, d3, d4, d5, d6] => { results := [.lit (.bool false)], args := [d1, d2, d3, d4, d5, d6] }
  | _ => none }
def CollectDamageWrongFalsely : Prop := collectDamageRow.holds Tryz.pinned (OpenSpec.ofChange collectDamageWrong)

/-- 'interleavelaw15.CollectLater': WHATEVER THE INPUT: true; the input reads as it did. -/
def collectLaterSpec : ChangeSpec := { name := "collectLater", fn := fun _ => fun
  | [d1, d2, d3] => { results := [.lit (.bool true)], args := [d1, d2, d3] }
  | _ => none }
def collectLaterRow : OpenClaim := { program := "ytfbkkgfkhhibfaagreat", sum := "ebee986b9b230e076916e54a603bb8f4ae6648bb0db060d5b66de7e120950fe9", func := "interleave/interleavelaw15.CollectLater", spec := "collectLater", unfollowed := true, recurses := true, apart := false }
def CollectLaterSaid : Prop := collectLaterRow.holds Tryz.pinned (OpenSpec.ofChange collectLaterSpec)

/-- ITS FALSE NEIGHBOUR: 'it returns false'. Refute it at one input. -/
def collectLaterWrong : ChangeSpec := { name := "collectLater", fn := fun _ => fun
  | [d1, d2, d3] => { results := [.lit (.bool false)], args := [d1, d2, d3] }
  | _ => none }
def CollectLaterWrongFalsely : Prop := collectLaterRow.holds Tryz.pinned (OpenSpec.ofChange collectLaterWrong)

/- THE SECOND FORM. 'bulk': how many values and letters a reading holds, each counted each time it is reached (what is shared counts as often as it is met; a slice's spare places count too). A statement '..UptoSaid' is the law's where the arguments, and the package variables that the reading takes, are together of bulk at most 1048576: NARROWER than '..Said'. Prove '..Said' where nothing that the law and all that it calls make is longer than what came in: it says more and counts as full. Else prove '..UptoSaid'. A law counts once. -/
mutual
def uptoBulk {H : Type} : DataW H → Nat
  | .lit (.string bytes) => bytes.length + 1
  | .lit _ => 1
  | .nil => 1
  | .ptr d => uptoBulk d + 1
  | .slice elems spare => uptoBulkAll elems + uptoBulkAll spare + 1
  | .agg parts => uptoBulkAll parts + 1
  | .iface _ d => uptoBulk d + 1
  | .map entries => uptoBulkEntries entries + 1
  | .held _ => 1
def uptoBulkAll {H : Type} : List (DataW H) → Nat
  | [] => 0
  | d :: r => uptoBulk d + uptoBulkAll r
def uptoBulkEntries {H : Type} : List (Lit × DataW H) → Nat
  | [] => 0
  | x :: r => uptoBulkEntry x + uptoBulkEntries r
def uptoBulkEntry {H : Type} : Lit × DataW H → Nat
  | (.string bytes, d) => bytes.length + uptoBulk d + 1
  | (_, d) => uptoBulk d + 1
 end
def uptoSmall : (H : Type) → List (DataW H) → Bool := fun _ ds => decide (uptoBulkAll ds ≤ 1048576)
def OpenSpec.upto (s : _root_.Go.ChangeSpec) : _root_.Go.OpenSpec := { _root_.Go.OpenSpec.ofChange s with cond := some uptoSmall }

/-- 'interleavelaw14.RecordOwn', WHERE WHAT IT READS IS OF BULK AT MOST 1048576: true; the input reads as it did. -/
def recordOwnUptoRow : OpenClaim := { program := "ytfbkkgfkhhibfaagreat", sum := "ebee986b9b230e076916e54a603bb8f4ae6648bb0db060d5b66de7e120950fe9", func := "interleave/interleavelaw14.RecordOwn", spec := "recordOwn", unfollowed := true, recurses := true, apart := false, narrowed := true }
def RecordOwnUptoSaid : Prop := recordOwnUptoRow.holds Tryz.pinned (OpenSpec.upto recordOwnSpec)

/-- 'interleavelaw15.CollectPrefix', WHERE WHAT IT READS IS OF BULK AT MOST 1048576: true; the input reads as it did. -/
def collectPrefixUptoRow : OpenClaim := { program := "ytfbkkgfkhhibfaagreat", sum := "ebee986b9b230e076916e54a603bb8f4ae6648bb0db060d5b66de7e120950fe9", func := "interleave/interleavelaw15.CollectPrefix", spec := "collectPrefix", unfollowed := true, recurses := true, apart := false, narrowed := true }
def CollectPrefixUptoSaid : Prop := collectPrefixUptoRow.holds Tryz.pinned (OpenSpec.upto collectPrefixSpec)

/-- 'interleavelaw15.CollectWhole', WHERE WHAT IT READS IS OF BULK AT MOST 1048576: true; the input reads as it did. -/
def collectWholeUptoRow : OpenClaim := { program := "ytfbkkgfkhhibfaagreat", sum := "ebee986b9b230e076916e54a603bb8f4ae6648bb0db060d5b66de7e120950fe9", func := "interleave/interleavelaw15.CollectWhole", spec := "collectWhole", unfollowed := true, recurses := true, apart := false, narrowed := true }
def CollectWholeUptoSaid : Prop := collectWholeUptoRow.holds Tryz.pinned (OpenSpec.upto collectWholeSpec)

/-- 'interleavelaw15.CollectOrder', WHERE WHAT IT READS IS OF BULK AT MOST 1048576: true; the input reads as it did. -/
def collectOrderUptoRow : OpenClaim := { program := "ytfbkkgfkhhibfaagreat", sum := "ebee986b9b230e076916e54a603bb8f4ae6648bb0db060d5b66de7e120950fe9", func := "interleave/interleavelaw15.CollectOrder", spec := "collectOrder", unfollowed := true, recurses := true, apart := false, narrowed := true }
def CollectOrderUptoSaid : Prop := collectOrderUptoRow.holds Tryz.pinned (OpenSpec.upto collectOrderSpec)

/-- 'interleavelaw15.CollectDamage', WHERE WHAT IT READS IS OF BULK AT MOST 1048576: true; the input reads as it did. -/
def collectDamageUptoRow : OpenClaim := { program := "ytfbkkgfkhhibfaagreat", sum := "ebee986b9b230e076916e54a603bb8f4ae6648bb0db060d5b66de7e120950fe9", func := "interleave/interleavelaw15.CollectDamage", spec := "collectDamage", unfollowed := true, recurses := true, apart := false, narrowed := true }
def CollectDamageUptoSaid : Prop := collectDamageUptoRow.holds Tryz.pinned (OpenSpec.upto collectDamageSpec)

/-- 'interleavelaw15.CollectLater', WHERE WHAT IT READS IS OF BULK AT MOST 1048576: true; the input reads as it did. -/
def collectLaterUptoRow : OpenClaim := { program := "ytfbkkgfkhhibfaagreat", sum := "ebee986b9b230e076916e54a603bb8f4ae6648bb0db060d5b66de7e120950fe9", func := "interleave/interleavelaw15.CollectLater", spec := "collectLater", unfollowed := true, recurses := true, apart := false, narrowed := true }
def CollectLaterUptoSaid : Prop := collectLaterUptoRow.holds Tryz.pinned (OpenSpec.upto collectLaterSpec)

end Rows
end Go.Proofs.YtfbkkgfkhhibfaaGreat
