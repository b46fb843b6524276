/-
  No cell of these rows narrows 'for every input' (looked for: loops, veiled, ifaces, maps, wideKeys, modest, calm, conditions, laid).
  DERIVED. THE GIVEN ROWS OF THIS SEAT. 5 by the template 'for every input the law returns true; each argument reads behind the call as it read before'; 0 by the template 'total and deterministic' (their statements: YtmfmoddaejoekaaTotals.lean).
  GIVEN WITH THE SEED: the statements are not yours to turn. If you find one false, say at which input.
  Laid BY PROGRAM, IN A SANDBOX (cutbox-rows.mjs): the forced cells as the released guide's own fill.sh prints them over the translation b975c34b2b026689… (all of the seat's roots in one cut). By AI agents, Wed Nov 11 2026. No macro, syntax, notation, axiom, sorry.
-/
import Derived.Test.YtmfmoddaejoekaaChecked
import GoSem.Claim
import GoSem.ClaimJoined
import GoSem.ClaimMapViews
import Derived.JoinedTies
import Derived.KernelRfl
namespace Go.Proofs.Ytmfmoddaejoekaa
/- THE CELL 'sum', in the pinned program and in every row, IS THE sha256 OF THE DUMP (.gsa) THAT YtmfmoddaejoekaaProg.lean LOADS. Nothing in Lean hashes anything: it is a label: what it is worth is what the hold of that sum in a sandbox is worth. -/
noncomputable def Try.pinned : Pinned := { name := "ytmfmoddaejoekaa", sum := "b975c34b2b026689b255cf76ae357aa7762825386f28d65f5cee3670a3061e5c", checked := Try.checked }
namespace Rows
def none {H : Type} : Left H := { results := [], args := [] }

/-- 'liverylaw17.JournalOwns': WHATEVER THE INPUT: true; the input reads as it did. -/
def journalOwnsSpec : ChangeSpec := { name := "journalOwns", fn := fun _ => fun
  | [d] => { results := [.lit (.bool true)], args := [d] }
  | _ => none }
def journalOwnsRow : OpenClaim := { program := "ytmfmoddaejoekaa", sum := "b975c34b2b026689b255cf76ae357aa7762825386f28d65f5cee3670a3061e5c", func := "livery/liverylaw17.JournalOwns", spec := "journalOwns", unfollowed := true, recurses := true, apart := false }
def JournalOwnsSaid : Prop := journalOwnsRow.holds Try.pinned (OpenSpec.ofChange journalOwnsSpec)

/-- ITS FALSE NEIGHBOUR: 'it returns false'. Refute it at one input. -/
def journalOwnsWrong : ChangeSpec := { name := "journalOwns", fn := fun _ => fun
  | [d] => { results := [.lit (.bool false)], args := [d] }
  | _ => none }
def JournalOwnsWrongFalsely : Prop := journalOwnsRow.holds Try.pinned (OpenSpec.ofChange journalOwnsWrong)

/-- 'liverylaw17.JournalRoom': WHATEVER THE INPUT: true; the input reads as it did. -/
def journalRoomSpec : ChangeSpec := { name := "journalRoom", fn := fun _ => fun
  | [d1, d2] => { results := [.lit (.bool true)], args := [d1, d2] }
  | _ => none }
def journalRoomRow : OpenClaim := { program := "ytmfmoddaejoekaa", sum := "b975c34b2b026689b255cf76ae357aa7762825386f28d65f5cee3670a3061e5c", func := "livery/liverylaw17.JournalRoom", spec := "journalRoom", unfollowed := true, recurses := true, apart := false }
def JournalRoomSaid : Prop := journalRoomRow.holds Try.pinned (OpenSpec.ofChange journalRoomSpec)

/-- ITS FALSE NEIGHBOUR: 'it returns false'. Refute it at one input. -/
def journalRoomWrong : ChangeSpec := { name := "journalRoom", fn := fun _ => fun
  | [d1, d2] => { results := [.lit (.bool false)], args := [d1, d2] }
  | _ => none }
def JournalRoomWrongFalsely : Prop := journalRoomRow.holds Try.pinned (OpenSpec.ofChange journalRoomWrong)

/-- 'liverylaw17.JournalReads': WHATEVER THE INPUT: true; the input reads as it did. -/
def journalReadsSpec : ChangeSpec := { name := "journalReads", fn := fun _ => fun
  | [d1, d2] => { results := [.lit (.bool true)], args := [d1, d2] }
  | _ => none }
def journalReadsRow : OpenClaim := { program := "ytmfmoddaejoekaa", sum := "b975c34b2b026689b255cf76ae357aa7762825386f28d65f5cee3670a3061e5c", func := "livery/liverylaw17.JournalReads", spec := "journalReads", unfollowed := true, recurses := true, apart := false }
def JournalReadsSaid : Prop := journalReadsRow.holds Try.pinned (OpenSpec.ofChange journalReadsSpec)

/-- ITS FALSE NEIGHBOUR: 'it returns false'. Refute it at one input. -/
def journalReadsWrong : ChangeSpec := { name := "journalReads", fn := fun _ => fun
  | [d1, d2] => { results := [.lit (.bool false)], args := [d1, d2] }
  | _ => none }
def JournalReadsWrongFalsely : Prop := journalReadsRow.holds Try.pinned (OpenSpec.ofChange journalReadsWrong)

/-- 'liverylaw17.JournalKept': WHATEVER THE INPUT: true; the input reads as it did. -/
def journalKeptSpec : ChangeSpec := { name := "journalKept", fn := fun _ => fun
  | [d1, d2] => { results := [.lit (.bool true)], args := [d1, d2] }
  | _ => none }
def journalKeptRow : OpenClaim := { program := "ytmfmoddaejoekaa", sum := "b975c34b2b026689b255cf76ae357aa7762825386f28d65f5cee3670a3061e5c", func := "livery/liverylaw17.JournalKept", spec := "journalKept", unfollowed := true, recurses := true, apart := false }
def JournalKeptSaid : Prop := journalKeptRow.holds Try.pinned (OpenSpec.ofChange journalKeptSpec)

/-- ITS FALSE NEIGHBOUR: 'it returns false'. Refute it at one input. -/
def journalKeptWrong : ChangeSpec := { name := "journalKept", fn := fun _ => fun
  | [d1, d2] => { results := [.lit (.bool false)], args := [d1, d2] }
  | _ => none }
def JournalKeptWrongFalsely : Prop := journalKeptRow.holds Try.pinned (OpenSpec.ofChange journalKeptWrong)

/-- 'liverylaw17.JournalPlays': WHATEVER THE INPUT: true; the input reads as it did. -/
def journalPlaysSpec : ChangeSpec := { name := "journalPlays", fn := fun _ => fun
  | [d] => { results := [.lit (.bool true)], args := [d] }
  | _ => none }
def journalPlaysRow : OpenClaim := { program := "ytmfmoddaejoekaa", sum := "b975c34b2b026689b255cf76ae357aa7762825386f28d65f5cee3670a3061e5c", func := "livery/liverylaw17.JournalPlays", spec := "journalPlays", unfollowed := true, recurses := true, apart := false }
def JournalPlaysSaid : Prop := journalPlaysRow.holds Try.pinned (OpenSpec.ofChange journalPlaysSpec)

/-- ITS FALSE NEIGHBOUR: 'it returns false'. Refute it at one input. -/
def journalPlaysWrong : ChangeSpec := { name := "journalPlays", fn := fun _ => fun
  | [d] => { results := [.lit (.bool false)], args := [d] }
  | _ => none }
def JournalPlaysWrongFalsely : Prop := journalPlaysRow.holds Try.pinned (OpenSpec.ofChange journalPlaysWrong)

/- THE SECOND FORM. 'bulk': how many values and letters a reading holds, each counted each time it is reached (what is shared counts as often as it is met; a slice's spare places count too). A statement '..UptoSaid' is the law's where the arguments, and the package variables that the reading takes, are together of bulk at most 1048576: NARROWER than '..Said'. Prove '..Said' where nothing that the law and all that it calls make is longer than what came in: it says more and counts as full. Else prove '..UptoSaid'. A law counts once. -/
mutual
def uptoBulk {H : Type} : DataW H → Nat
  | .lit (.string bytes) => bytes.length + 1
  | .lit _ => 1
  | .nil => 1
  | .ptr d => uptoBulk d + 1
  | .slice elems spare => uptoBulkAll elems + uptoBulkAll spare + 1
  | .agg parts => uptoBulkAll parts + 1
  | .iface _ d => uptoBulk d + 1
  | .map entries => uptoBulkEntries entries + 1
  | .held _ => 1
def uptoBulkAll {H : Type} : List (DataW H) → Nat
  | [] => 0
  | d :: r => uptoBulk d + uptoBulkAll r
def uptoBulkEntries {H : Type} : List (Lit × DataW H) → Nat
  | [] => 0
  | x :: r => uptoBulkEntry x + uptoBulkEntries r
def uptoBulkEntry {H : Type} : Lit × DataW H → Nat
  | (.string bytes, d) => bytes.length + uptoBulk d + 1
  | (_, d) => uptoBulk d + 1
 end
def uptoSmall : (H : Type) → List (DataW H) → Bool := fun _ ds => decide (uptoBulkAll ds ≤ 1048576)
def OpenSpec.upto (s : _root_.Go.ChangeSpec) : _root_.Go.OpenSpec := { _root_.Go.OpenSpec.ofChange s with cond := some uptoSmall }

/-- 'liverylaw17.JournalOwns', WHERE WHAT IT READS IS OF BULK AT MOST 1048576: true; the input reads as it did. -/
def journalOwnsUptoRow : OpenClaim := { program := "ytmfmoddaejoekaa", sum := "b975c34b2b026689b255cf76ae357aa7762825386f28d65f5cee3670a3061e5c", func := "livery/liverylaw17.JournalOwns", spec := "journalOwns", unfollowed := true, recurses := true, apart := false, narrowed := true }
def JournalOwnsUptoSaid : Prop := journalOwnsUptoRow.holds Try.pinned (OpenSpec.upto journalOwnsSpec)

/-- 'liverylaw17.JournalRoom', WHERE WHAT IT READS IS OF BULK AT MOST 1048576: true; the input reads as it did. -/
def journalRoomUptoRow : OpenClaim := { program := "ytmfmoddaejoekaa", sum := "b975c34b2b026689b255cf76ae357aa7762825386f28d65f5cee3670a3061e5c", func := "livery/liverylaw17.JournalRoom", spec := "journalRoom", unfollowed := true, recurses := true, apart := false, narrowed := true }
def JournalRoomUptoSaid : Prop := journalRoomUptoRow.holds Try.pinned (OpenSpec.upto journalRoomSpec)

/-- 'liverylaw17.JournalReads', WHERE WHAT IT READS IS OF BULK AT MOST 1048576: true; the input reads as it did. -/
def journalReadsUptoRow : OpenClaim := { program := "ytmfmoddaejoekaa", sum := "b975c34b2b026689b255cf76ae357aa7762825386f28d65f5cee3670a3061e5c", func := "livery/liverylaw17.JournalReads", spec := "journalReads", unfollowed := true, recurses := true, apart := false, narrowed := true }
def JournalReadsUptoSaid : Prop := journalReadsUptoRow.holds Try.pinned (OpenSpec.upto journalReadsSpec)

/-- 'liverylaw17.JournalKept', WHERE WHAT IT READS IS OF BULK AT MOST 1048576: true; the input reads as it did. -/
def journalKeptUptoRow : OpenClaim := { program := "ytmfmoddaejoekaa", sum := "b975c34b2b026689b255cf76ae357aa7762825386f28d65f5cee3670a3061e5c", func := "livery/liverylaw17.JournalKept", spec := "journalKept", unfollowed := true, recurses := true, apart := false, narrowed := true }
def JournalKeptUptoSaid : Prop := journalKeptUptoRow.holds Try.pinned (OpenSpec.upto journalKeptSpec)

/-- 'liverylaw17.JournalPlays', WHERE WHAT IT READS IS OF BULK AT MOST 1048576: true; the input reads as it did. -/
def journalPlaysUptoRow : OpenClaim := { program := "ytmfmoddaejoekaa", sum := "b975c34b2b026689b255cf76ae357aa7762825386f28d65f5cee3670a3061e5c", func := "livery/liverylaw17.JournalPlays", spec := "journalPlays", unfollowed := true, recurses := true, apart := false, narrowed := true }
def JournalPlaysUptoSaid : Prop := journalPlaysUptoRow.holds Try.pinned (OpenSpec.upto journalPlaysSpec)

end Rows
end Go.Proofs.Ytmfmoddaejoekaa
