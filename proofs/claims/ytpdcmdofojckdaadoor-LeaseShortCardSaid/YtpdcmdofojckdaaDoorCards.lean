/-
  DERIVED. GIVEN WITH THE SEED: THE CARDS: each row of YtpdcmdofojckdaaDoorRows.lean that lists a variable, with what it lists TIED to the program's text (the seventh form; the later family's looks); each row that meets fmt, with fmt's text TOLD by the authors' own Lean function (tested against real Go, not proved from fmt's source: count such statements apart). THE CARD IS WHAT COUNTS. Prove the row's statement (the work); the ties are given (YtpdcmdofojckdaaDoorTie.lean); close each card by the builder's one call (the guide's Derived/Test/ToyasCard.lean, 'card_holds'). Laid BY PROGRAM, IN A SANDBOX (cutbox-door.mjs). By AI agents, Wed Nov 11 2026. No macro, syntax, notation, axiom, sorry.
-/
import Derived.Test.YtpdcmdofojckdaaDoorRows
import GoSem.ClaimSeven
namespace Go.Proofs.YtpdcmdofojckdaaDoor
namespace Rows

/-- THE TIED CARD OF 'liverylaw13.LeaseShort'. -/
def leaseShortCard : Claim7 := { stood := { row := leaseShortRow, standIns := [], harness := (true, "2471bba11368cf8a22dfd744897061f8c19134886d647a385488fdcf6038ea61"), looks := false }, kinds := [], alts := [], laidByText := true, laidKinds := [.data, .data, .data], laidTests := true, laidLooks := .later }
def LeaseShortCardSaid : Prop := Claim7.holds Tryd.pinned (.plain (OpenSpec.ofChange leaseShortSpec)) leaseShortCard

/-- THE TIED CARD OF 'liverylaw13.LeaseWanes'. -/
def leaseWanesCard : Claim7 := { stood := { row := leaseWanesRow, standIns := [], harness := (true, "2471bba11368cf8a22dfd744897061f8c19134886d647a385488fdcf6038ea61"), looks := false }, kinds := [], alts := [], laidByText := true, laidKinds := [.data, .data, .data], laidTests := true, laidLooks := .later }
def LeaseWanesCardSaid : Prop := Claim7.holds Tryd.pinned (.plain (OpenSpec.ofChange leaseWanesSpec)) leaseWanesCard

/-- THE TIED CARD OF 'liverylaw13.LeaseOwns'. -/
def leaseOwnsCard : Claim7 := { stood := { row := leaseOwnsRow, standIns := [], harness := (true, "2471bba11368cf8a22dfd744897061f8c19134886d647a385488fdcf6038ea61"), looks := false }, kinds := [], alts := [], laidByText := true, laidKinds := [.data, .data, .data], laidTests := true, laidLooks := .later }
def LeaseOwnsCardSaid : Prop := Claim7.holds Tryd.pinned (.plain (OpenSpec.ofChange leaseOwnsSpec)) leaseOwnsCard

/-- THE TIED CARD OF 'liverylaw13.LeasePlays'. -/
def leasePlaysCard : Claim7 := { stood := { row := leasePlaysRow, standIns := [], harness := (true, "2471bba11368cf8a22dfd744897061f8c19134886d647a385488fdcf6038ea61"), looks := false }, kinds := [], alts := [], laidByText := true, laidKinds := [.data, .data, .data], laidTests := true, laidLooks := .later }
def LeasePlaysCardSaid : Prop := Claim7.holds Tryd.pinned (.plain (OpenSpec.ofChange leasePlaysSpec)) leasePlaysCard

/-- THE SECOND FORM's CARD OF 'liverylaw13.LeaseShort'. -/
def leaseShortUptoCard : Claim7 := { stood := { row := leaseShortUptoRow, standIns := [], harness := (true, "2471bba11368cf8a22dfd744897061f8c19134886d647a385488fdcf6038ea61"), looks := false }, kinds := [], alts := [], laidByText := true, laidKinds := [.data, .data, .data], laidTests := true, laidLooks := .later }
def LeaseShortUptoCardSaid : Prop := Claim7.holds Tryd.pinned (.plain (OpenSpec.upto leaseShortSpec)) leaseShortUptoCard

/-- THE SECOND FORM's CARD OF 'liverylaw13.LeaseWanes'. -/
def leaseWanesUptoCard : Claim7 := { stood := { row := leaseWanesUptoRow, standIns := [], harness := (true, "2471bba11368cf8a22dfd744897061f8c19134886d647a385488fdcf6038ea61"), looks := false }, kinds := [], alts := [], laidByText := true, laidKinds := [.data, .data, .data], laidTests := true, laidLooks := .later }
def LeaseWanesUptoCardSaid : Prop := Claim7.holds Tryd.pinned (.plain (OpenSpec.upto leaseWanesSpec)) leaseWanesUptoCard

/-- THE SECOND FORM's CARD OF 'liverylaw13.LeaseOwns'. -/
def leaseOwnsUptoCard : Claim7 := { stood := { row := leaseOwnsUptoRow, standIns := [], harness := (true, "2471bba11368cf8a22dfd744897061f8c19134886d647a385488fdcf6038ea61"), looks := false }, kinds := [], alts := [], laidByText := true, laidKinds := [.data, .data, .data], laidTests := true, laidLooks := .later }
def LeaseOwnsUptoCardSaid : Prop := Claim7.holds Tryd.pinned (.plain (OpenSpec.upto leaseOwnsSpec)) leaseOwnsUptoCard

/-- THE SECOND FORM's CARD OF 'liverylaw13.LeasePlays'. -/
def leasePlaysUptoCard : Claim7 := { stood := { row := leasePlaysUptoRow, standIns := [], harness := (true, "2471bba11368cf8a22dfd744897061f8c19134886d647a385488fdcf6038ea61"), looks := false }, kinds := [], alts := [], laidByText := true, laidKinds := [.data, .data, .data], laidTests := true, laidLooks := .later }
def LeasePlaysUptoCardSaid : Prop := Claim7.holds Tryd.pinned (.plain (OpenSpec.upto leasePlaysSpec)) leasePlaysUptoCard
end Rows
end Go.Proofs.YtpdcmdofojckdaaDoor
