/-
  No cell of these rows narrows 'for every input' (looked for: loops, veiled, ifaces, maps, wideKeys, modest, calm, conditions, laid).
  DERIVED. THE GIVEN ROWS OF THIS SEAT. 12 by the template 'for every input the law returns true; each argument reads behind the call as it read before'; 0 by the template 'total and deterministic' (their statements: YtnfnomcgalkagaaTotals.lean).
  GIVEN WITH THE SEED: the statements are not yours to turn. If you find one false, say at which input.
  Laid BY PROGRAM, IN A SANDBOX (cutbox-rows.mjs): the forced cells as the released guide's own fill.sh prints them over the translation 9561cc09d5f0fd1d… (all of the seat's roots in one cut). By AI agents, Wed Nov 11 2026. No macro, syntax, notation, axiom, sorry.
-/
import Derived.Test.YtnfnomcgalkagaaChecked
import GoSem.Claim
import GoSem.ClaimJoined
import GoSem.ClaimMapViews
import Derived.JoinedTies
import Derived.KernelRfl
namespace Go.Proofs.Ytnfnomcgalkagaa
/- THE CELL 'sum', in the pinned program and in every row, IS THE sha256 OF THE DUMP (.gsa) THAT YtnfnomcgalkagaaProg.lean LOADS. Nothing in Lean hashes anything: it is a label: what it is worth is what the hold of that sum in a sandbox is worth. -/
noncomputable def Try.pinned : Pinned := { name := "ytnfnomcgalkagaa", sum := "9561cc09d5f0fd1df6f7dbc62f2e5df84683e2fe35f4f0f2dbecad0eac3bcf7d", checked := Try.checked }
namespace Rows
def none {H : Type} : Left H := { results := [], args := [] }

/-- 'liverylaw10.VectorSays': WHATEVER THE INPUT: true; the input reads as it did. -/
def vectorSaysSpec : ChangeSpec := { name := "vectorSays", fn := fun _ => fun
  | [d1, d2, d3] => { results := [.lit (.bool true)], args := [d1, d2, d3] }
  | _ => none }
def vectorSaysRow : OpenClaim := { program := "ytnfnomcgalkagaa", sum := "9561cc09d5f0fd1df6f7dbc62f2e5df84683e2fe35f4f0f2dbecad0eac3bcf7d", func := "livery/liverylaw10.VectorSays", spec := "vectorSays", unfollowed := true, recurses := true, apart := false }
def VectorSaysSaid : Prop := vectorSaysRow.holds Try.pinned (OpenSpec.ofChange vectorSaysSpec)

/-- ITS FALSE NEIGHBOUR: 'it returns false'. Refute it at one input. -/
def vectorSaysWrong : ChangeSpec := { name := "vectorSays", fn := fun _ => fun
  | [d1, d2, d3] => { results := [.lit (.bool false)], args := [d1, d2, d3] }
  | _ => none }
def VectorSaysWrongFalsely : Prop := vectorSaysRow.holds Try.pinned (OpenSpec.ofChange vectorSaysWrong)

/-- 'liverylaw10.VectorJoins': WHATEVER THE INPUT: true; the input reads as it did. -/
def vectorJoinsSpec : ChangeSpec := { name := "vectorJoins", fn := fun _ => fun
  | [d1, d2] => { results := [.lit (.bool true)], args := [d1, d2] }
  | _ => none }
def vectorJoinsRow : OpenClaim := { program := "ytnfnomcgalkagaa", sum := "9561cc09d5f0fd1df6f7dbc62f2e5df84683e2fe35f4f0f2dbecad0eac3bcf7d", func := "livery/liverylaw10.VectorJoins", spec := "vectorJoins", unfollowed := true, recurses := true, apart := false }
def VectorJoinsSaid : Prop := vectorJoinsRow.holds Try.pinned (OpenSpec.ofChange vectorJoinsSpec)

/-- ITS FALSE NEIGHBOUR: 'it returns false'. Refute it at one input. -/
def vectorJoinsWrong : ChangeSpec := { name := "vectorJoins", fn := fun _ => fun
  | [d1, d2] => { results := [.lit (.bool false)], args := [d1, d2] }
  | _ => none }
def VectorJoinsWrongFalsely : Prop := vectorJoinsRow.holds Try.pinned (OpenSpec.ofChange vectorJoinsWrong)

/-- 'liverylaw10.VectorLeast': WHATEVER THE INPUT: true; the input reads as it did. -/
def vectorLeastSpec : ChangeSpec := { name := "vectorLeast", fn := fun _ => fun
  | [d1, d2, d3] => { results := [.lit (.bool true)], args := [d1, d2, d3] }
  | _ => none }
def vectorLeastRow : OpenClaim := { program := "ytnfnomcgalkagaa", sum := "9561cc09d5f0fd1df6f7dbc62f2e5df84683e2fe35f4f0f2dbecad0eac3bcf7d", func := "livery/liverylaw10.VectorLeast", spec := "vectorLeast", unfollowed := true, recurses := true, apart := false }
def VectorLeastSaid : Prop := vectorLeastRow.holds Try.pinned (OpenSpec.ofChange vectorLeastSpec)

/-- ITS FALSE NEIGHBOUR: 'it returns false'. Refute it at one input. -/
def vectorLeastWrong : ChangeSpec := { name := "vectorLeast", fn := fun _ => fun
  | [d1, d2, d3] => { results := [.lit (.bool false)], args := [d1, d2, d3] }
  | _ => none }
def VectorLeastWrongFalsely : Prop := vectorLeastRow.holds Try.pinned (OpenSpec.ofChange vectorLeastWrong)

/-- 'liverylaw10.VectorOrder': WHATEVER THE INPUT: true; the input reads as it did. -/
def vectorOrderSpec : ChangeSpec := { name := "vectorOrder", fn := fun _ => fun
  | [d1, d2, d3] => { results := [.lit (.bool true)], args := [d1, d2, d3] }
  | _ => none }
def vectorOrderRow : OpenClaim := { program := "ytnfnomcgalkagaa", sum := "9561cc09d5f0fd1df6f7dbc62f2e5df84683e2fe35f4f0f2dbecad0eac3bcf7d", func := "livery/liverylaw10.VectorOrder", spec := "vectorOrder", unfollowed := true, recurses := true, apart := false }
def VectorOrderSaid : Prop := vectorOrderRow.holds Try.pinned (OpenSpec.ofChange vectorOrderSpec)

/-- ITS FALSE NEIGHBOUR: 'it returns false'. Refute it at one input. -/
def vectorOrderWrong : ChangeSpec := { name := "vectorOrder", fn := fun _ => fun
  | [d1, d2, d3] => { results := [.lit (.bool false)], args := [d1, d2, d3] }
  | _ => none }
def VectorOrderWrongFalsely : Prop := vectorOrderRow.holds Try.pinned (OpenSpec.ofChange vectorOrderWrong)

/-- 'liverylaw10.VectorPuts': WHATEVER THE INPUT: true; the input reads as it did. -/
def vectorPutsSpec : ChangeSpec := { name := "vectorPuts", fn := fun _ => fun
  | [d1, d2] => { results := [.lit (.bool true)], args := [d1, d2] }
  | _ => none }
def vectorPutsRow : OpenClaim := { program := "ytnfnomcgalkagaa", sum := "9561cc09d5f0fd1df6f7dbc62f2e5df84683e2fe35f4f0f2dbecad0eac3bcf7d", func := "livery/liverylaw10.VectorPuts", spec := "vectorPuts", unfollowed := true, recurses := true, apart := false }
def VectorPutsSaid : Prop := vectorPutsRow.holds Try.pinned (OpenSpec.ofChange vectorPutsSpec)

/-- ITS FALSE NEIGHBOUR: 'it returns false'. Refute it at one input. -/
def vectorPutsWrong : ChangeSpec := { name := "vectorPuts", fn := fun _ => fun
  | [d1, d2] => { results := [.lit (.bool false)], args := [d1, d2] }
  | _ => none }
def VectorPutsWrongFalsely : Prop := vectorPutsRow.holds Try.pinned (OpenSpec.ofChange vectorPutsWrong)

/-- 'liverylaw10.VectorStays': WHATEVER THE INPUT: true; the input reads as it did. -/
def vectorStaysSpec : ChangeSpec := { name := "vectorStays", fn := fun _ => fun
  | [d1, d2, d3] => { results := [.lit (.bool true)], args := [d1, d2, d3] }
  | _ => none }
def vectorStaysRow : OpenClaim := { program := "ytnfnomcgalkagaa", sum := "9561cc09d5f0fd1df6f7dbc62f2e5df84683e2fe35f4f0f2dbecad0eac3bcf7d", func := "livery/liverylaw10.VectorStays", spec := "vectorStays", unfollowed := true, recurses := true, apart := false }
def VectorStaysSaid : Prop := vectorStaysRow.holds Try.pinned (OpenSpec.ofChange vectorStaysSpec)

/-- ITS FALSE NEIGHBOUR: 'it returns false'. Refute it at one input. -/
def vectorStaysWrong : ChangeSpec := { name := "vectorStays", fn := fun _ => fun
  | [d1, d2, d3] => { results := [.lit (.bool false)], args := [d1, d2, d3] }
  | _ => none }
def VectorStaysWrongFalsely : Prop := vectorStaysRow.holds Try.pinned (OpenSpec.ofChange vectorStaysWrong)

/-- 'liverylaw03.WirePuts': WHATEVER THE INPUT: true; the input reads as it did. -/
def wirePutsSpec : ChangeSpec := { name := "wirePuts", fn := fun _ => fun
  | [d1, d2, d3] => { results := [.lit (.bool true)], args := [d1, d2, d3] }
  | _ => none }
def wirePutsRow : OpenClaim := { program := "ytnfnomcgalkagaa", sum := "9561cc09d5f0fd1df6f7dbc62f2e5df84683e2fe35f4f0f2dbecad0eac3bcf7d", func := "livery/liverylaw03.WirePuts", spec := "wirePuts", unfollowed := true, recurses := true, apart := false }
def WirePutsSaid : Prop := wirePutsRow.holds Try.pinned (OpenSpec.ofChange wirePutsSpec)

/-- ITS FALSE NEIGHBOUR: 'it returns false'. Refute it at one input. -/
def wirePutsWrong : ChangeSpec := { name := "wirePuts", fn := fun _ => fun
  | [d1, d2, d3] => { results := [.lit (.bool false)], args := [d1, d2, d3] }
  | _ => none }
def WirePutsWrongFalsely : Prop := wirePutsRow.holds Try.pinned (OpenSpec.ofChange wirePutsWrong)

/-- 'liverylaw03.WireRound': WHATEVER THE INPUT: true; the input reads as it did. -/
def wireRoundSpec : ChangeSpec := { name := "wireRound", fn := fun _ => fun
  | [d1, d2, d3, d4] => { results := [.lit (.bool true)], args := [d1, d2, d3, d4] }
  | _ => none }
def wireRoundRow : OpenClaim := { program := "ytnfnomcgalkagaa", sum := "9561cc09d5f0fd1df6f7dbc62f2e5df84683e2fe35f4f0f2dbecad0eac3bcf7d", func := "livery/liverylaw03.WireRound", spec := "wireRound", unfollowed := true, recurses := true, apart := false }
def WireRoundSaid : Prop := wireRoundRow.holds Try.pinned (OpenSpec.ofChange wireRoundSpec)

/-- ITS FALSE NEIGHBOUR: 'it returns false'. Refute it at one input. -/
def wireRoundWrong : ChangeSpec := { name := "wireRound", fn := fun _ => fun
  | [d1, d2, d3, d4] => { results := [.lit (.bool false)], args := [d1, d2, d3, d4] }
  | _ => none }
def WireRoundWrongFalsely : Prop := wireRoundRow.holds Try.pinned (OpenSpec.ofChange wireRoundWrong)

/-- 'liverylaw03.WireOne': WHATEVER THE INPUT: true; the input reads as it did. -/
def wireOneSpec : ChangeSpec := { name := "wireOne", fn := fun _ => fun
  | [d] => { results := [.lit (.bool true)], args := [d] }
  | _ => none }
def wireOneRow : OpenClaim := { program := "ytnfnomcgalkagaa", sum := "9561cc09d5f0fd1df6f7dbc62f2e5df84683e2fe35f4f0f2dbecad0eac3bcf7d", func := "livery/liverylaw03.WireOne", spec := "wireOne", unfollowed := true, recurses := true, apart := false }
def WireOneSaid : Prop := wireOneRow.holds Try.pinned (OpenSpec.ofChange wireOneSpec)

/-- ITS FALSE NEIGHBOUR: 'it returns false'. Refute it at one input. -/
def wireOneWrong : ChangeSpec := { name := "wireOne", fn := fun _ => fun
  | [d] => { results := [.lit (.bool false)], args := [d] }
  | _ => none }
def WireOneWrongFalsely : Prop := wireOneRow.holds Try.pinned (OpenSpec.ofChange wireOneWrong)

/-- 'liverylaw03.WireSizes': WHATEVER THE INPUT: true; the input reads as it did. -/
def wireSizesSpec : ChangeSpec := { name := "wireSizes", fn := fun _ => fun
  | [d1, d2] => { results := [.lit (.bool true)], args := [d1, d2] }
  | _ => none }
def wireSizesRow : OpenClaim := { program := "ytnfnomcgalkagaa", sum := "9561cc09d5f0fd1df6f7dbc62f2e5df84683e2fe35f4f0f2dbecad0eac3bcf7d", func := "livery/liverylaw03.WireSizes", spec := "wireSizes", unfollowed := true, recurses := true, apart := false }
def WireSizesSaid : Prop := wireSizesRow.holds Try.pinned (OpenSpec.ofChange wireSizesSpec)

/-- ITS FALSE NEIGHBOUR: 'it returns false'. Refute it at one input. -/
def wireSizesWrong : ChangeSpec := { name := "wireSizes", fn := fun _ => fun
  | [d1, d2] => { results := [.lit (.bool false)], args := [d1, d2] }
  | _ => none }
def WireSizesWrongFalsely : Prop := wireSizesRow.holds Try.pinned (OpenSpec.ofChange wireSizesWrong)

/-- 'liverylaw03.WireOwns': WHATEVER THE INPUT: true; the input reads as it did. -/
def wireOwnsSpec : ChangeSpec := { name := "wireOwns", fn := fun _ => fun
  | [d1, d2] => { results := [.lit (.bool true)], args := [d1, d2] }
  | _ => none }
def wireOwnsRow : OpenClaim := { program := "ytnfnomcgalkagaa", sum := "9561cc09d5f0fd1df6f7dbc62f2e5df84683e2fe35f4f0f2dbecad0eac3bcf7d", func := "livery/liverylaw03.WireOwns", spec := "wireOwns", unfollowed := true, recurses := true, apart := false }
def WireOwnsSaid : Prop := wireOwnsRow.holds Try.pinned (OpenSpec.ofChange wireOwnsSpec)

/-- ITS FALSE NEIGHBOUR: 'it returns false'. Refute it at one input. -/
def wireOwnsWrong : ChangeSpec := { name := "wireOwns", fn := fun _ => fun
  | [d1, d2] => { results := [.lit (.bool false)], args := [d1, d2] }
  | _ => none }
def WireOwnsWrongFalsely : Prop := wireOwnsRow.holds Try.pinned (OpenSpec.ofChange wireOwnsWrong)

/-- 'liverylaw03.WireReads': WHATEVER THE INPUT: true; the input reads as it did. -/
def wireReadsSpec : ChangeSpec := { name := "wireReads", fn := fun _ => fun
  | [d1, d2] => { results := [.lit (.bool true)], args := [d1, d2] }
  | _ => none }
def wireReadsRow : OpenClaim := { program := "ytnfnomcgalkagaa", sum := "9561cc09d5f0fd1df6f7dbc62f2e5df84683e2fe35f4f0f2dbecad0eac3bcf7d", func := "livery/liverylaw03.WireReads", spec := "wireReads", unfollowed := true, recurses := true, apart := false }
def WireReadsSaid : Prop := wireReadsRow.holds Try.pinned (OpenSpec.ofChange wireReadsSpec)

/-- ITS FALSE NEIGHBOUR: 'it returns false'. Refute it at one input. -/
def wireReadsWrong : ChangeSpec := { name := "wireReads", fn := fun _ => fun
  | [d1, d2] => { results := [.lit (.bool false)], args := [d1, d2] }
  | _ => none }
def WireReadsWrongFalsely : Prop := wireReadsRow.holds Try.pinned (OpenSpec.ofChange wireReadsWrong)

/- THE SECOND FORM. 'bulk': how many values and letters a reading holds, each counted each time it is reached (what is shared counts as often as it is met; a slice's spare places count too). A statement '..UptoSaid' is the law's where the arguments, and the package variables that the reading takes, are together of bulk at most 1048576: NARROWER than '..Said'. Prove '..Said' where nothing that the law and all that it calls make is longer than what came in: it says more and counts as full. Else prove '..UptoSaid'. A law counts once. -/
mutual
def uptoBulk {H : Type} : DataW H → Nat
  | .lit (.string bytes) => bytes.length + 1
  | .lit _ => 1
  | .nil => 1
  | .ptr d => uptoBulk d + 1
  | .slice elems spare => uptoBulkAll elems + uptoBulkAll spare + 1
  | .agg parts => uptoBulkAll parts + 1
  | .iface _ d => uptoBulk d + 1
  | .map entries => uptoBulkEntries entries + 1
  | .held _ => 1
def uptoBulkAll {H : Type} : List (DataW H) → Nat
  | [] => 0
  | d :: r => uptoBulk d + uptoBulkAll r
def uptoBulkEntries {H : Type} : List (Lit × DataW H) → Nat
  | [] => 0
  | x :: r => uptoBulkEntry x + uptoBulkEntries r
def uptoBulkEntry {H : Type} : Lit × DataW H → Nat
  | (.string bytes, d) => bytes.length + uptoBulk d + 1
  | (_, d) => uptoBulk d + 1
 end
def uptoSmall : (H : Type) → List (DataW H) → Bool := fun _ ds => decide (uptoBulkAll ds ≤ 1048576)
def OpenSpec.upto (s : _root_.Go.ChangeSpec) : _root_.Go.OpenSpec := { _root_.Go.OpenSpec.ofChange s with cond := some uptoSmall }

/-- 'liverylaw10.VectorSays', WHERE WHAT IT READS IS OF BULK AT MOST 1048576: true; the input reads as it did. -/
def vectorSaysUptoRow : OpenClaim := { program := "ytnfnomcgalkagaa", sum := "9561cc09d5f0fd1df6f7dbc62f2e5df84683e2fe35f4f0f2dbecad0eac3bcf7d", func := "livery/liverylaw10.VectorSays", spec := "vectorSays", unfollowed := true, recurses := true, apart := false, narrowed := true }
def VectorSaysUptoSaid : Prop := vectorSaysUptoRow.holds Try.pinned (OpenSpec.upto vectorSaysSpec)

/-- 'liverylaw10.VectorJoins', WHERE WHAT IT READS IS OF BULK AT MOST 1048576: true; the input reads as it did. -/
def vectorJoinsUptoRow : OpenClaim := { program := "ytnfnomcgalkagaa", sum := "9561cc09d5f0fd1df6f7dbc62f2e5df84683e2fe35f4f0f2dbecad0eac3bcf7d", func := "livery/liverylaw10.VectorJoins", spec := "vectorJoins", unfollowed := true, recurses := true, apart := false, narrowed := true }
def VectorJoinsUptoSaid : Prop := vectorJoinsUptoRow.holds Try.pinned (OpenSpec.upto vectorJoinsSpec)

/-- 'liverylaw10.VectorLeast', WHERE WHAT IT READS IS OF BULK AT MOST 1048576: true; the input reads as it did. -/
def vectorLeastUptoRow : OpenClaim := { program := "ytnfnomcgalkagaa", sum := "9561cc09d5f0fd1df6f7dbc62f2e5df84683e2fe35f4f0f2dbecad0eac3bcf7d", func := "livery/liverylaw10.VectorLeast", spec := "vectorLeast", unfollowed := true, recurses := true, apart := false, narrowed := true }
def VectorLeastUptoSaid : Prop := vectorLeastUptoRow.holds Try.pinned (OpenSpec.upto vectorLeastSpec)

/-- 'liverylaw10.VectorOrder', WHERE WHAT IT READS IS OF BULK AT MOST 1048576: true; the input reads as it did. -/
def vectorOrderUptoRow : OpenClaim := { program := "ytnfnomcgalkagaa", sum := "9561cc09d5f0fd1df6f7dbc62f2e5df84683e2fe35f4f0f2dbecad0eac3bcf7d", func := "livery/liverylaw10.VectorOrder", spec := "vectorOrder", unfollowed := true, recurses := true, apart := false, narrowed := true }
def VectorOrderUptoSaid : Prop := vectorOrderUptoRow.holds Try.pinned (OpenSpec.upto vectorOrderSpec)

/-- 'liverylaw10.VectorPuts', WHERE WHAT IT READS IS OF BULK AT MOST 1048576: true; the input reads as it did. -/
def vectorPutsUptoRow : OpenClaim := { program := "ytnfnomcgalkagaa", sum := "9561cc09d5f0fd1df6f7dbc62f2e5df84683e2fe35f4f0f2dbecad0eac3bcf7d", func := "livery/liverylaw10.VectorPuts", spec := "vectorPuts", unfollowed := true, recurses := true, apart := false, narrowed := true }
def VectorPutsUptoSaid : Prop := vectorPutsUptoRow.holds Try.pinned (OpenSpec.upto vectorPutsSpec)

/-- 'liverylaw10.VectorStays', WHERE WHAT IT READS IS OF BULK AT MOST 1048576: true; the input reads as it did. -/
def vectorStaysUptoRow : OpenClaim := { program := "ytnfnomcgalkagaa", sum := "9561cc09d5f0fd1df6f7dbc62f2e5df84683e2fe35f4f0f2dbecad0eac3bcf7d", func := "livery/liverylaw10.VectorStays", spec := "vectorStays", unfollowed := true, recurses := true, apart := false, narrowed := true }
def VectorStaysUptoSaid : Prop := vectorStaysUptoRow.holds Try.pinned (OpenSpec.upto vectorStaysSpec)

/-- 'liverylaw03.WirePuts', WHERE WHAT IT READS IS OF BULK AT MOST 1048576: true; the input reads as it did. -/
def wirePutsUptoRow : OpenClaim := { program := "ytnfnomcgalkagaa", sum := "9561cc09d5f0fd1df6f7dbc62f2e5df84683e2fe35f4f0f2dbecad0eac3bcf7d", func := "livery/liverylaw03.WirePuts", spec := "wirePuts", unfollowed := true, recurses := true, apart := false, narrowed := true }
def WirePutsUptoSaid : Prop := wirePutsUptoRow.holds Try.pinned (OpenSpec.upto wirePutsSpec)

/-- 'liverylaw03.WireRound', WHERE WHAT IT READS IS OF BULK AT MOST 1048576: true; the input reads as it did. -/
def wireRoundUptoRow : OpenClaim := { program := "ytnfnomcgalkagaa", sum := "9561cc09d5f0fd1df6f7dbc62f2e5df84683e2fe35f4f0f2dbecad0eac3bcf7d", func := "livery/liverylaw03.WireRound", spec := "wireRound", unfollowed := true, recurses := true, apart := false, narrowed := true }
def WireRoundUptoSaid : Prop := wireRoundUptoRow.holds Try.pinned (OpenSpec.upto wireRoundSpec)

/-- 'liverylaw03.WireOne', WHERE WHAT IT READS IS OF BULK AT MOST 1048576: true; the input reads as it did. -/
def wireOneUptoRow : OpenClaim := { program := "ytnfnomcgalkagaa", sum := "9561cc09d5f0fd1df6f7dbc62f2e5df84683e2fe35f4f0f2dbecad0eac3bcf7d", func := "livery/liverylaw03.WireOne", spec := "wireOne", unfollowed := true, recurses := true, apart := false, narrowed := true }
def WireOneUptoSaid : Prop := wireOneUptoRow.holds Try.pinned (OpenSpec.upto wireOneSpec)

/-- 'liverylaw03.WireSizes', WHERE WHAT IT READS IS OF BULK AT MOST 1048576: true; the input reads as it did. -/
def wireSizesUptoRow : OpenClaim := { program := "ytnfnomcgalkagaa", sum := "9561cc09d5f0fd1df6f7dbc62f2e5df84683e2fe35f4f0f2dbecad0eac3bcf7d", func := "livery/liverylaw03.WireSizes", spec := "wireSizes", unfollowed := true, recurses := true, apart := false, narrowed := true }
def WireSizesUptoSaid : Prop := wireSizesUptoRow.holds Try.pinned (OpenSpec.upto wireSizesSpec)

/-- 'liverylaw03.WireOwns', WHERE WHAT IT READS IS OF BULK AT MOST 1048576: true; the input reads as it did. -/
def wireOwnsUptoRow : OpenClaim := { program := "ytnfnomcgalkagaa", sum := "9561cc09d5f0fd1df6f7dbc62f2e5df84683e2fe35f4f0f2dbecad0eac3bcf7d", func := "livery/liverylaw03.WireOwns", spec := "wireOwns", unfollowed := true, recurses := true, apart := false, narrowed := true }
def WireOwnsUptoSaid : Prop := wireOwnsUptoRow.holds Try.pinned (OpenSpec.upto wireOwnsSpec)

/-- 'liverylaw03.WireReads', WHERE WHAT IT READS IS OF BULK AT MOST 1048576: true; the input reads as it did. -/
def wireReadsUptoRow : OpenClaim := { program := "ytnfnomcgalkagaa", sum := "9561cc09d5f0fd1df6f7dbc62f2e5df84683e2fe35f4f0f2dbecad0eac3bcf7d", func := "livery/liverylaw03.WireReads", spec := "wireReads", unfollowed := true, recurses := true, apart := false, narrowed := true }
def WireReadsUptoSaid : Prop := wireReadsUptoRow.holds Try.pinned (OpenSpec.upto wireReadsSpec)

end Rows
end Go.Proofs.Ytnfnomcgalkagaa
