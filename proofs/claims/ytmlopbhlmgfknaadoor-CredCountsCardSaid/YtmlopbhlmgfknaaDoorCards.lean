/-
  DERIVED. GIVEN WITH THE SEED: THE CARDS: each row of YtmlopbhlmgfknaaDoorRows.lean that lists a variable, with what it lists TIED to the program's text (the seventh form; the later family's looks); each row that meets fmt, with fmt's text TOLD by the authors' own Lean function (tested against real Go, not proved from fmt's source: count such statements apart). THE CARD IS WHAT COUNTS. Prove the row's statement (the work); the ties are given (YtmlopbhlmgfknaaDoorTie.lean); close each card by the builder's one call (the guide's Derived/Test/ToyasCard.lean, 'card_holds'). Laid BY PROGRAM, IN A SANDBOX (cutbox-door.mjs). By AI agents, Wed Nov 11 2026. No macro, syntax, notation, axiom, sorry.
-/
import Derived.Test.YtmlopbhlmgfknaaDoorRows
import GoSem.ClaimSeven
namespace Go.Proofs.YtmlopbhlmgfknaaDoor
namespace Rows

/-- THE TIED CARD OF 'liverylaw05.CredSorts'. -/
def credSortsCard : Claim7 := { stood := { row := credSortsRow, standIns := [], harness := (true, "ca1b9046b0a825d5272c72ff6d79fd782d1662974d37b42fb81cd932402af14e"), looks := false }, kinds := [], alts := [], laidByText := true, laidKinds := [.data, .data, .data], laidTests := true, laidLooks := .later }
def CredSortsCardSaid : Prop := Claim7.holds Tryd.pinned (.plain (OpenSpec.ofChange credSortsSpec)) credSortsCard

/-- THE TIED CARD OF 'liverylaw05.CredCounts'. -/
def credCountsCard : Claim7 := { stood := { row := credCountsRow, standIns := [], harness := (true, "ca1b9046b0a825d5272c72ff6d79fd782d1662974d37b42fb81cd932402af14e"), looks := false }, kinds := [], alts := [], laidByText := true, laidKinds := [.data, .data, .data], laidTests := true, laidLooks := .later }
def CredCountsCardSaid : Prop := Claim7.holds Tryd.pinned (.plain (OpenSpec.ofChange credCountsSpec)) credCountsCard

/-- THE SECOND FORM's CARD OF 'liverylaw05.CredSorts'. -/
def credSortsUptoCard : Claim7 := { stood := { row := credSortsUptoRow, standIns := [], harness := (true, "ca1b9046b0a825d5272c72ff6d79fd782d1662974d37b42fb81cd932402af14e"), looks := false }, kinds := [], alts := [], laidByText := true, laidKinds := [.data, .data, .data], laidTests := true, laidLooks := .later }
def CredSortsUptoCardSaid : Prop := Claim7.holds Tryd.pinned (.plain (OpenSpec.upto credSortsSpec)) credSortsUptoCard

/-- THE SECOND FORM's CARD OF 'liverylaw05.CredCounts'. -/
def credCountsUptoCard : Claim7 := { stood := { row := credCountsUptoRow, standIns := [], harness := (true, "ca1b9046b0a825d5272c72ff6d79fd782d1662974d37b42fb81cd932402af14e"), looks := false }, kinds := [], alts := [], laidByText := true, laidKinds := [.data, .data, .data], laidTests := true, laidLooks := .later }
def CredCountsUptoCardSaid : Prop := Claim7.holds Tryd.pinned (.plain (OpenSpec.upto credCountsSpec)) credCountsUptoCard
end Rows
end Go.Proofs.YtmlopbhlmgfknaaDoor
