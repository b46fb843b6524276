/-
  DERIVED. GIVEN WITH THE SEED: THE CARDS: each row of YtpnmmkoiemeodaaDoorRows.lean that lists a variable, with what it lists TIED to the program's text (the seventh form; the later family's looks); each row that meets fmt, with fmt's text TOLD by the authors' own Lean function (tested against real Go, not proved from fmt's source: count such statements apart). THE CARD IS WHAT COUNTS. Prove the row's statement (the work); the ties are given (YtpnmmkoiemeodaaDoorTie.lean); close each card by the builder's one call (the guide's Derived/Test/ToyasCard.lean, 'card_holds'). Laid BY PROGRAM, IN A SANDBOX (cutbox-door.mjs). By AI agents, Wed Nov 11 2026. No macro, syntax, notation, axiom, sorry.
-/
import Derived.Test.YtpnmmkoiemeodaaDoorRows
import GoSem.ClaimSeven
namespace Go.Proofs.YtpnmmkoiemeodaaDoor
namespace Rows

/-- THE TIED CARD OF 'liverylaw05.CredMay'. -/
def credMayCard : Claim7 := { stood := { row := credMayRow, standIns := [], harness := (true, "cd20bc9246929b644db7c35458604039a86c2c930ece99b0871027b31abb9e07"), looks := false }, kinds := [], alts := [], laidByText := true, laidKinds := [.data, .data, .data], laidTests := true, laidLooks := .later }
def CredMayCardSaid : Prop := Claim7.holds Tryd.pinned (.plain (OpenSpec.ofChange credMaySpec)) credMayCard

/-- THE TIED CARD OF 'liverylaw05.CredPuts'. -/
def credPutsCard : Claim7 := { stood := { row := credPutsRow, standIns := [], harness := (true, "cd20bc9246929b644db7c35458604039a86c2c930ece99b0871027b31abb9e07"), looks := false }, kinds := [], alts := [], laidByText := true, laidKinds := [.data, .data, .data], laidTests := true, laidLooks := .later }
def CredPutsCardSaid : Prop := Claim7.holds Tryd.pinned (.plain (OpenSpec.ofChange credPutsSpec)) credPutsCard

/-- THE TIED CARD OF 'liverylaw05.CredTexts'. -/
def credTextsCard : Claim7 := { stood := { row := credTextsRow, standIns := [], harness := (true, "cd20bc9246929b644db7c35458604039a86c2c930ece99b0871027b31abb9e07"), looks := false }, kinds := [], alts := [], laidByText := true, laidKinds := [.data, .data, .data], laidTests := true, laidLooks := .later }
def CredTextsCardSaid : Prop := Claim7.holds Tryd.pinned (.plain (OpenSpec.ofChange credTextsSpec)) credTextsCard

/-- THE TIED CARD OF 'liverylaw05.CredOrder'. -/
def credOrderCard : Claim7 := { stood := { row := credOrderRow, standIns := [], harness := (true, "cd20bc9246929b644db7c35458604039a86c2c930ece99b0871027b31abb9e07"), looks := false }, kinds := [], alts := [], laidByText := true, laidKinds := [.data, .data, .data], laidTests := true, laidLooks := .later }
def CredOrderCardSaid : Prop := Claim7.holds Tryd.pinned (.plain (OpenSpec.ofChange credOrderSpec)) credOrderCard

/-- THE TIED CARD OF 'liverylaw05.CredReads'. -/
def credReadsCard : Claim7 := { stood := { row := credReadsRow, standIns := [], harness := (true, "cd20bc9246929b644db7c35458604039a86c2c930ece99b0871027b31abb9e07"), looks := false }, kinds := [], alts := [], laidByText := true, laidKinds := [.data, .data, .data], laidTests := true, laidLooks := .later }
def CredReadsCardSaid : Prop := Claim7.holds Tryd.pinned (.plain (OpenSpec.ofChange credReadsSpec)) credReadsCard

/-- THE TIED CARD OF 'liverylaw05.CredRound'. -/
def credRoundCard : Claim7 := { stood := { row := credRoundRow, standIns := [], harness := (true, "cd20bc9246929b644db7c35458604039a86c2c930ece99b0871027b31abb9e07"), looks := false }, kinds := [], alts := [], laidByText := true, laidKinds := [.data, .data, .data], laidTests := true, laidLooks := .later }
def CredRoundCardSaid : Prop := Claim7.holds Tryd.pinned (.plain (OpenSpec.ofChange credRoundSpec)) credRoundCard

/-- THE SECOND FORM's CARD OF 'liverylaw05.CredMay'. -/
def credMayUptoCard : Claim7 := { stood := { row := credMayUptoRow, standIns := [], harness := (true, "cd20bc9246929b644db7c35458604039a86c2c930ece99b0871027b31abb9e07"), looks := false }, kinds := [], alts := [], laidByText := true, laidKinds := [.data, .data, .data], laidTests := true, laidLooks := .later }
def CredMayUptoCardSaid : Prop := Claim7.holds Tryd.pinned (.plain (OpenSpec.upto credMaySpec)) credMayUptoCard

/-- THE SECOND FORM's CARD OF 'liverylaw05.CredPuts'. -/
def credPutsUptoCard : Claim7 := { stood := { row := credPutsUptoRow, standIns := [], harness := (true, "cd20bc9246929b644db7c35458604039a86c2c930ece99b0871027b31abb9e07"), looks := false }, kinds := [], alts := [], laidByText := true, laidKinds := [.data, .data, .data], laidTests := true, laidLooks := .later }
def CredPutsUptoCardSaid : Prop := Claim7.holds Tryd.pinned (.plain (OpenSpec.upto credPutsSpec)) credPutsUptoCard

/-- THE SECOND FORM's CARD OF 'liverylaw05.CredTexts'. -/
def credTextsUptoCard : Claim7 := { stood := { row := credTextsUptoRow, standIns := [], harness := (true, "cd20bc9246929b644db7c35458604039a86c2c930ece99b0871027b31abb9e07"), looks := false }, kinds := [], alts := [], laidByText := true, laidKinds := [.data, .data, .data], laidTests := true, laidLooks := .later }
def CredTextsUptoCardSaid : Prop := Claim7.holds Tryd.pinned (.plain (OpenSpec.upto credTextsSpec)) credTextsUptoCard

/-- THE SECOND FORM's CARD OF 'liverylaw05.CredOrder'. -/
def credOrderUptoCard : Claim7 := { stood := { row := credOrderUptoRow, standIns := [], harness := (true, "cd20bc9246929b644db7c35458604039a86c2c930ece99b0871027b31abb9e07"), looks := false }, kinds := [], alts := [], laidByText := true, laidKinds := [.data, .data, .data], laidTests := true, laidLooks := .later }
def CredOrderUptoCardSaid : Prop := Claim7.holds Tryd.pinned (.plain (OpenSpec.upto credOrderSpec)) credOrderUptoCard

/-- THE SECOND FORM's CARD OF 'liverylaw05.CredReads'. -/
def credReadsUptoCard : Claim7 := { stood := { row := credReadsUptoRow, standIns := [], harness := (true, "cd20bc9246929b644db7c35458604039a86c2c930ece99b0871027b31abb9e07"), looks := false }, kinds := [], alts := [], laidByText := true, laidKinds := [.data, .data, .data], laidTests := true, laidLooks := .later }
def CredReadsUptoCardSaid : Prop := Claim7.holds Tryd.pinned (.plain (OpenSpec.upto credReadsSpec)) credReadsUptoCard

/-- THE SECOND FORM's CARD OF 'liverylaw05.CredRound'. -/
def credRoundUptoCard : Claim7 := { stood := { row := credRoundUptoRow, standIns := [], harness := (true, "cd20bc9246929b644db7c35458604039a86c2c930ece99b0871027b31abb9e07"), looks := false }, kinds := [], alts := [], laidByText := true, laidKinds := [.data, .data, .data], laidTests := true, laidLooks := .later }
def CredRoundUptoCardSaid : Prop := Claim7.holds Tryd.pinned (.plain (OpenSpec.upto credRoundSpec)) credRoundUptoCard
end Rows
end Go.Proofs.YtpnmmkoiemeodaaDoor
