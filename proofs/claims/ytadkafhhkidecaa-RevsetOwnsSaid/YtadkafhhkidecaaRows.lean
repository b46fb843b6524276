/-
  No cell of these rows narrows 'for every input' (looked for: loops, veiled, ifaces, maps, wideKeys, modest, calm, conditions, laid).
  DERIVED. THE GIVEN ROWS OF THIS SEAT. 5 by the template 'for every input the law returns true; each argument reads behind the call as it read before'; 0 by the template 'total and deterministic' (their statements: YtadkafhhkidecaaTotals.lean).
  GIVEN WITH THE SEED: the statements are not yours to turn. If you find one false, say at which input.
  Laid BY PROGRAM, IN A SANDBOX (cutbox-rows.mjs): the forced cells as the released guide's own fill.sh prints them over the translation 252c16d8e433cb60… (all of the seat's roots in one cut). By AI agents, Wed Nov 11 2026. No macro, syntax, notation, axiom, sorry.
-/
import Derived.Test.YtadkafhhkidecaaChecked
import GoSem.Claim
import GoSem.ClaimJoined
import GoSem.ClaimMapViews
import Derived.JoinedTies
import Derived.KernelRfl
namespace Go.Proofs.Ytadkafhhkidecaa
/- THE CELL 'sum', in the pinned program and in every row, IS THE sha256 OF THE DUMP (.gsa) THAT YtadkafhhkidecaaProg.lean LOADS. Nothing in Lean hashes anything: it is a label: what it is worth is what the hold of that sum in a sandbox is worth. -/
noncomputable def Try.pinned : Pinned := { name := "ytadkafhhkidecaa", sum := "252c16d8e433cb603202c842b022c74533903a3db4514f747fba6e9b0999140e", checked := Try.checked }
namespace Rows
def none {H : Type} : Left H := { results := [], args := [] }

/-- 'liverylaw11.RevsetPlays': WHATEVER THE INPUT: true; the input reads as it did. -/
def revsetPlaysSpec : ChangeSpec := { name := "revsetPlays", fn := fun _ => fun
  | [d] => { results := [.lit (.bool true)], args := [d] }
  | _ => none }
def revsetPlaysRow : OpenClaim := { program := "ytadkafhhkidecaa", sum := "252c16d8e433cb603202c842b022c74533903a3db4514f747fba6e9b0999140e", func := "livery/liverylaw11.RevsetPlays", spec := "revsetPlays", unfollowed := true, recurses := true, apart := false }
def RevsetPlaysSaid : Prop := revsetPlaysRow.holds Try.pinned (OpenSpec.ofChange revsetPlaysSpec)

/-- ITS FALSE NEIGHBOUR: 'it returns false'. Refute it at one input. -/
def revsetPlaysWrong : ChangeSpec := { name := "revsetPlays", fn := fun _ => fun
  | [d] => { results := [.lit (.bool false)], args := [d] }
  | _ => none }
def RevsetPlaysWrongFalsely : Prop := revsetPlaysRow.holds Try.pinned (OpenSpec.ofChange revsetPlaysWrong)

/-- 'liverylaw11.RevsetDeltas': WHATEVER THE INPUT: true; the input reads as it did. -/
def revsetDeltasSpec : ChangeSpec := { name := "revsetDeltas", fn := fun _ => fun
  | [d1, d2] => { results := [.lit (.bool true)], args := [d1, d2] }
  | _ => none }
def revsetDeltasRow : OpenClaim := { program := "ytadkafhhkidecaa", sum := "252c16d8e433cb603202c842b022c74533903a3db4514f747fba6e9b0999140e", func := "livery/liverylaw11.RevsetDeltas", spec := "revsetDeltas", unfollowed := true, recurses := true, apart := false }
def RevsetDeltasSaid : Prop := revsetDeltasRow.holds Try.pinned (OpenSpec.ofChange revsetDeltasSpec)

/-- ITS FALSE NEIGHBOUR: 'it returns false'. Refute it at one input. -/
def revsetDeltasWrong : ChangeSpec := { name := "revsetDeltas", fn := fun _ => fun
  | [d1, d2] => { results := [.lit (.bool false)], args := [d1, d2] }
  | _ => none }
def RevsetDeltasWrongFalsely : Prop := revsetDeltasRow.holds Try.pinned (OpenSpec.ofChange revsetDeltasWrong)

/-- 'liverylaw11.RevsetGrows': WHATEVER THE INPUT: true; the input reads as it did. -/
def revsetGrowsSpec : ChangeSpec := { name := "revsetGrows", fn := fun _ => fun
  | [d] => { results := [.lit (.bool true)], args := [d] }
  | _ => none }
def revsetGrowsRow : OpenClaim := { program := "ytadkafhhkidecaa", sum := "252c16d8e433cb603202c842b022c74533903a3db4514f747fba6e9b0999140e", func := "livery/liverylaw11.RevsetGrows", spec := "revsetGrows", unfollowed := true, recurses := true, apart := false }
def RevsetGrowsSaid : Prop := revsetGrowsRow.holds Try.pinned (OpenSpec.ofChange revsetGrowsSpec)

/-- ITS FALSE NEIGHBOUR: 'it returns false'. Refute it at one input. -/
def revsetGrowsWrong : ChangeSpec := { name := "revsetGrows", fn := fun _ => fun
  | [d] => { results := [.lit (.bool false)], args := [d] }
  | _ => none }
def RevsetGrowsWrongFalsely : Prop := revsetGrowsRow.holds Try.pinned (OpenSpec.ofChange revsetGrowsWrong)

/-- 'liverylaw11.RevsetJoined': WHATEVER THE INPUT: true; the input reads as it did. -/
def revsetJoinedSpec : ChangeSpec := { name := "revsetJoined", fn := fun _ => fun
  | [d1, d2, d3] => { results := [.lit (.bool true)], args := [d1, d2, d3] }
  | _ => none }
def revsetJoinedRow : OpenClaim := { program := "ytadkafhhkidecaa", sum := "252c16d8e433cb603202c842b022c74533903a3db4514f747fba6e9b0999140e", func := "livery/liverylaw11.RevsetJoined", spec := "revsetJoined", unfollowed := true, recurses := true, apart := false }
def RevsetJoinedSaid : Prop := revsetJoinedRow.holds Try.pinned (OpenSpec.ofChange revsetJoinedSpec)

/-- ITS FALSE NEIGHBOUR: 'it returns false'. Refute it at one input. -/
def revsetJoinedWrong : ChangeSpec := { name := "revsetJoined", fn := fun _ => fun
  | [d1, d2, d3] => { results := [.lit (.bool false)], args := [d1, d2, d3] }
  | _ => none }
def RevsetJoinedWrongFalsely : Prop := revsetJoinedRow.holds Try.pinned (OpenSpec.ofChange revsetJoinedWrong)

/-- 'liverylaw11.RevsetOwns': WHATEVER THE INPUT: true; the input reads as it did. -/
def revsetOwnsSpec : ChangeSpec := { name := "revsetOwns", fn := fun _ => fun
  | [d1, d2] => { results := [.lit (.bool true)], args := [d1, d2] }
  | _ => none }
def revsetOwnsRow : OpenClaim := { program := "ytadkafhhkidecaa", sum := "252c16d8e433cb603202c842b022c74533903a3db4514f747fba6e9b0999140e", func := "livery/liverylaw11.RevsetOwns", spec := "revsetOwns", unfollowed := true, recurses := true, apart := false }
def RevsetOwnsSaid : Prop := revsetOwnsRow.holds Try.pinned (OpenSpec.ofChange revsetOwnsSpec)

/-- ITS FALSE NEIGHBOUR: 'it returns false'. Refute it at one input. -/
def revsetOwnsWrong : ChangeSpec := { name := "revsetOwns", fn := fun _ => fun
  | [d1, d2] => { results := [.lit (.bool false)], args := [d1, d2] }
  | _ => none }
def RevsetOwnsWrongFalsely : Prop := revsetOwnsRow.holds Try.pinned (OpenSpec.ofChange revsetOwnsWrong)

/- THE SECOND FORM. 'bulk': how many values and letters a reading holds, each counted each time it is reached (what is shared counts as often as it is met; a slice's spare places count too). A statement '..UptoSaid' is the law's where the arguments, and the package variables that the reading takes, are together of bulk at most 1048576: NARROWER than '..Said'. Prove '..Said' where nothing that the law and all that it calls make is longer than what came in: it says more and counts as full. Else prove '..UptoSaid'. A law counts once. -/
mutual
def uptoBulk {H : Type} : DataW H → Nat
  | .lit (.string bytes) => bytes.length + 1
  | .lit _ => 1
  | .nil => 1
  | .ptr d => uptoBulk d + 1
  | .slice elems spare => uptoBulkAll elems + uptoBulkAll spare + 1
  | .agg parts => uptoBulkAll parts + 1
  | .iface _ d => uptoBulk d + 1
  | .map entries => uptoBulkEntries entries + 1
  | .held _ => 1
def uptoBulkAll {H : Type} : List (DataW H) → Nat
  | [] => 0
  | d :: r => uptoBulk d + uptoBulkAll r
def uptoBulkEntries {H : Type} : List (Lit × DataW H) → Nat
  | [] => 0
  | x :: r => uptoBulkEntry x + uptoBulkEntries r
def uptoBulkEntry {H : Type} : Lit × DataW H → Nat
  | (.string bytes, d) => bytes.length + uptoBulk d + 1
  | (_, d) => uptoBulk d + 1
 end
def uptoSmall : (H : Type) → List (DataW H) → Bool := fun _ ds => decide (uptoBulkAll ds ≤ 1048576)
def OpenSpec.upto (s : _root_.Go.ChangeSpec) : _root_.Go.OpenSpec := { _root_.Go.OpenSpec.ofChange s with cond := some uptoSmall }

/-- 'liverylaw11.RevsetPlays', WHERE WHAT IT READS IS OF BULK AT MOST 1048576: true; the input reads as it did. -/
def revsetPlaysUptoRow : OpenClaim := { program := "ytadkafhhkidecaa", sum := "252c16d8e433cb603202c842b022c74533903a3db4514f747fba6e9b0999140e", func := "livery/liverylaw11.RevsetPlays", spec := "revsetPlays", unfollowed := true, recurses := true, apart := false, narrowed := true }
def RevsetPlaysUptoSaid : Prop := revsetPlaysUptoRow.holds Try.pinned (OpenSpec.upto revsetPlaysSpec)

/-- 'liverylaw11.RevsetDeltas', WHERE WHAT IT READS IS OF BULK AT MOST 1048576: true; the input reads as it did. -/
def revsetDeltasUptoRow : OpenClaim := { program := "ytadkafhhkidecaa", sum := "252c16d8e433cb603202c842b022c74533903a3db4514f747fba6e9b0999140e", func := "livery/liverylaw11.RevsetDeltas", spec := "revsetDeltas", unfollowed := true, recurses := true, apart := false, narrowed := true }
def RevsetDeltasUptoSaid : Prop := revsetDeltasUptoRow.holds Try.pinned (OpenSpec.upto revsetDeltasSpec)

/-- 'liverylaw11.RevsetGrows', WHERE WHAT IT READS IS OF BULK AT MOST 1048576: true; the input reads as it did. -/
def revsetGrowsUptoRow : OpenClaim := { program := "ytadkafhhkidecaa", sum := "252c16d8e433cb603202c842b022c74533903a3db4514f747fba6e9b0999140e", func := "livery/liverylaw11.RevsetGrows", spec := "revsetGrows", unfollowed := true, recurses := true, apart := false, narrowed := true }
def RevsetGrowsUptoSaid : Prop := revsetGrowsUptoRow.holds Try.pinned (OpenSpec.upto revsetGrowsSpec)

/-- 'liverylaw11.RevsetJoined', WHERE WHAT IT READS IS OF BULK AT MOST 1048576: true; the input reads as it did. -/
def revsetJoinedUptoRow : OpenClaim := { program := "ytadkafhhkidecaa", sum := "252c16d8e433cb603202c842b022c74533903a3db4514f747fba6e9b0999140e", func := "livery/liverylaw11.RevsetJoined", spec := "revsetJoined", unfollowed := true, recurses := true, apart := false, narrowed := true }
def RevsetJoinedUptoSaid : Prop := revsetJoinedUptoRow.holds Try.pinned (OpenSpec.upto revsetJoinedSpec)

/-- 'liverylaw11.RevsetOwns', WHERE WHAT IT READS IS OF BULK AT MOST 1048576: true; the input reads as it did. -/
def revsetOwnsUptoRow : OpenClaim := { program := "ytadkafhhkidecaa", sum := "252c16d8e433cb603202c842b022c74533903a3db4514f747fba6e9b0999140e", func := "livery/liverylaw11.RevsetOwns", spec := "revsetOwns", unfollowed := true, recurses := true, apart := false, narrowed := true }
def RevsetOwnsUptoSaid : Prop := revsetOwnsUptoRow.holds Try.pinned (OpenSpec.upto revsetOwnsSpec)

end Rows
end Go.Proofs.Ytadkafhhkidecaa
