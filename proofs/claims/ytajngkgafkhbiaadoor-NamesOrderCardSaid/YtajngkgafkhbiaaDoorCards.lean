/-
  DERIVED. GIVEN WITH THE SEED: THE CARDS: each row of YtajngkgafkhbiaaDoorRows.lean that lists a variable, with what it lists TIED to the program's text (the seventh form; the later family's looks); each row that meets fmt, with fmt's text TOLD by the authors' own Lean function (tested against real Go, not proved from fmt's source: count such statements apart). THE CARD IS WHAT COUNTS. Prove the row's statement (the work); the ties are given (YtajngkgafkhbiaaDoorTie.lean); close each card by the builder's one call (the guide's Derived/Test/ToyasCard.lean, 'card_holds'). Laid BY PROGRAM, IN A SANDBOX (cutbox-door.mjs). By AI agents, Wed Nov 11 2026. No macro, syntax, notation, axiom, sorry.
-/
import Derived.Test.YtajngkgafkhbiaaDoorRows
import GoSem.ClaimSeven
namespace Go.Proofs.YtajngkgafkhbiaaDoor
namespace Rows

/-- THE TIED CARD OF 'liverylaw04.NamesKinds'. -/
def namesKindsCard : Claim7 := { stood := { row := namesKindsRow, standIns := [], harness := (true, "77b45c763db161ebf85897f292526bb9e3a2915aa85c950aa79506046df34027"), looks := false }, kinds := [], alts := [], laidByText := true, laidKinds := [.data, .data, .data], laidTests := true, laidLooks := .later }
def NamesKindsCardSaid : Prop := Claim7.holds Tryd.pinned (.plain (OpenSpec.ofChange namesKindsSpec)) namesKindsCard

/-- THE TIED CARD OF 'liverylaw04.NamesDomains'. -/
def namesDomainsCard : Claim7 := { stood := { row := namesDomainsRow, standIns := [], harness := (true, "77b45c763db161ebf85897f292526bb9e3a2915aa85c950aa79506046df34027"), looks := false }, kinds := [], alts := [], laidByText := true, laidKinds := [.data, .data, .data], laidTests := true, laidLooks := .later }
def NamesDomainsCardSaid : Prop := Claim7.holds Tryd.pinned (.plain (OpenSpec.ofChange namesDomainsSpec)) namesDomainsCard

/-- THE TIED CARD OF 'liverylaw04.NamesTexts'. -/
def namesTextsCard : Claim7 := { stood := { row := namesTextsRow, standIns := [], harness := (true, "77b45c763db161ebf85897f292526bb9e3a2915aa85c950aa79506046df34027"), looks := false }, kinds := [], alts := [], laidByText := true, laidKinds := [.data, .data, .data], laidTests := true, laidLooks := .later }
def NamesTextsCardSaid : Prop := Claim7.holds Tryd.pinned (.plain (OpenSpec.ofChange namesTextsSpec)) namesTextsCard

/-- THE TIED CARD OF 'liverylaw04.NamesRound'. -/
def namesRoundCard : Claim7 := { stood := { row := namesRoundRow, standIns := [], harness := (true, "77b45c763db161ebf85897f292526bb9e3a2915aa85c950aa79506046df34027"), looks := false }, kinds := [], alts := [], laidByText := true, laidKinds := [.data, .data, .data], laidTests := true, laidLooks := .later }
def NamesRoundCardSaid : Prop := Claim7.holds Tryd.pinned (.plain (OpenSpec.ofChange namesRoundSpec)) namesRoundCard

/-- THE TIED CARD OF 'liverylaw04.NamesLess'. -/
def namesLessCard : Claim7 := { stood := { row := namesLessRow, standIns := [], harness := (true, "77b45c763db161ebf85897f292526bb9e3a2915aa85c950aa79506046df34027"), looks := false }, kinds := [], alts := [], laidByText := true, laidKinds := [.data, .data, .data], laidTests := true, laidLooks := .later }
def NamesLessCardSaid : Prop := Claim7.holds Tryd.pinned (.plain (OpenSpec.ofChange namesLessSpec)) namesLessCard

/-- THE TIED CARD OF 'liverylaw04.NamesOrder'. -/
def namesOrderCard : Claim7 := { stood := { row := namesOrderRow, standIns := [], harness := (true, "77b45c763db161ebf85897f292526bb9e3a2915aa85c950aa79506046df34027"), looks := false }, kinds := [], alts := [], laidByText := true, laidKinds := [.data, .data, .data], laidTests := true, laidLooks := .later }
def NamesOrderCardSaid : Prop := Claim7.holds Tryd.pinned (.plain (OpenSpec.ofChange namesOrderSpec)) namesOrderCard

/-- THE SECOND FORM's CARD OF 'liverylaw04.NamesKinds'. -/
def namesKindsUptoCard : Claim7 := { stood := { row := namesKindsUptoRow, standIns := [], harness := (true, "77b45c763db161ebf85897f292526bb9e3a2915aa85c950aa79506046df34027"), looks := false }, kinds := [], alts := [], laidByText := true, laidKinds := [.data, .data, .data], laidTests := true, laidLooks := .later }
def NamesKindsUptoCardSaid : Prop := Claim7.holds Tryd.pinned (.plain (OpenSpec.upto namesKindsSpec)) namesKindsUptoCard

/-- THE SECOND FORM's CARD OF 'liverylaw04.NamesDomains'. -/
def namesDomainsUptoCard : Claim7 := { stood := { row := namesDomainsUptoRow, standIns := [], harness := (true, "77b45c763db161ebf85897f292526bb9e3a2915aa85c950aa79506046df34027"), looks := false }, kinds := [], alts := [], laidByText := true, laidKinds := [.data, .data, .data], laidTests := true, laidLooks := .later }
def NamesDomainsUptoCardSaid : Prop := Claim7.holds Tryd.pinned (.plain (OpenSpec.upto namesDomainsSpec)) namesDomainsUptoCard

/-- THE SECOND FORM's CARD OF 'liverylaw04.NamesTexts'. -/
def namesTextsUptoCard : Claim7 := { stood := { row := namesTextsUptoRow, standIns := [], harness := (true, "77b45c763db161ebf85897f292526bb9e3a2915aa85c950aa79506046df34027"), looks := false }, kinds := [], alts := [], laidByText := true, laidKinds := [.data, .data, .data], laidTests := true, laidLooks := .later }
def NamesTextsUptoCardSaid : Prop := Claim7.holds Tryd.pinned (.plain (OpenSpec.upto namesTextsSpec)) namesTextsUptoCard

/-- THE SECOND FORM's CARD OF 'liverylaw04.NamesRound'. -/
def namesRoundUptoCard : Claim7 := { stood := { row := namesRoundUptoRow, standIns := [], harness := (true, "77b45c763db161ebf85897f292526bb9e3a2915aa85c950aa79506046df34027"), looks := false }, kinds := [], alts := [], laidByText := true, laidKinds := [.data, .data, .data], laidTests := true, laidLooks := .later }
def NamesRoundUptoCardSaid : Prop := Claim7.holds Tryd.pinned (.plain (OpenSpec.upto namesRoundSpec)) namesRoundUptoCard

/-- THE SECOND FORM's CARD OF 'liverylaw04.NamesLess'. -/
def namesLessUptoCard : Claim7 := { stood := { row := namesLessUptoRow, standIns := [], harness := (true, "77b45c763db161ebf85897f292526bb9e3a2915aa85c950aa79506046df34027"), looks := false }, kinds := [], alts := [], laidByText := true, laidKinds := [.data, .data, .data], laidTests := true, laidLooks := .later }
def NamesLessUptoCardSaid : Prop := Claim7.holds Tryd.pinned (.plain (OpenSpec.upto namesLessSpec)) namesLessUptoCard

/-- THE SECOND FORM's CARD OF 'liverylaw04.NamesOrder'. -/
def namesOrderUptoCard : Claim7 := { stood := { row := namesOrderUptoRow, standIns := [], harness := (true, "77b45c763db161ebf85897f292526bb9e3a2915aa85c950aa79506046df34027"), looks := false }, kinds := [], alts := [], laidByText := true, laidKinds := [.data, .data, .data], laidTests := true, laidLooks := .later }
def NamesOrderUptoCardSaid : Prop := Claim7.holds Tryd.pinned (.plain (OpenSpec.upto namesOrderSpec)) namesOrderUptoCard
end Rows
end Go.Proofs.YtajngkgafkhbiaaDoor
