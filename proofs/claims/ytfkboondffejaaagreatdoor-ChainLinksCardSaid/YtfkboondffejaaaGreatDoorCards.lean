/-
  DERIVED. GIVEN WITH THE SEED: THE CARDS: each row of YtfkboondffejaaaGreatDoorRows.lean that lists a variable, with what it lists TIED to the program's text (the seventh form; the later family's looks); each row that meets fmt, with fmt's text TOLD by the authors' own Lean function (tested against real Go, not proved from fmt's source: count such statements apart). THE CARD IS WHAT COUNTS. Prove the row's statement (the work); the ties are given (YtfkboondffejaaaGreatDoorTie.lean); close each card by the builder's one call (the guide's Derived/Test/ToyasCard.lean, 'card_holds'). Laid BY PROGRAM, IN A SANDBOX (cutbox-door.mjs). By AI agents, Wed Nov 11 2026. No macro, syntax, notation, axiom, sorry.
-/
import Derived.Test.YtfkboondffejaaaGreatDoorRows
import GoSem.ClaimSeven
namespace Go.Proofs.YtfkboondffejaaaGreatDoor
namespace Rows

/-- THE TIED CARD OF 'munimentlaw17.ChainLinks'. -/
def chainLinksCard : Claim7 := { stood := { row := chainLinksRow, standIns := [], harness := (true, "02bab10e1b2f398e9b72494139a568f18f177bae18e8d427e722e96c68ee45e6"), looks := false }, kinds := [], alts := [], laidByText := true, laidKinds := [.data, .data, .data, .pinned], laidTests := true, laidLooks := .later }
def ChainLinksCardSaid : Prop := Claim7.holds Tryz.pinned (.plain (OpenSpec.ofChange chainLinksSpec)) chainLinksCard

/-- THE TIED CARD OF 'munimentlaw17.ChainVerifies'. -/
def chainVerifiesCard : Claim7 := { stood := { row := chainVerifiesRow, standIns := [], harness := (true, "02bab10e1b2f398e9b72494139a568f18f177bae18e8d427e722e96c68ee45e6"), looks := false }, kinds := [], alts := [], laidByText := true, laidKinds := [.data, .data, .data, .pinned], laidTests := true, laidLooks := .later }
def ChainVerifiesCardSaid : Prop := Claim7.holds Tryz.pinned (.plain (OpenSpec.ofChange chainVerifiesSpec)) chainVerifiesCard

/-- THE TIED CARD OF 'munimentlaw17.ChainPrefix'. -/
def chainPrefixCard : Claim7 := { stood := { row := chainPrefixRow, standIns := [], harness := (true, "02bab10e1b2f398e9b72494139a568f18f177bae18e8d427e722e96c68ee45e6"), looks := false }, kinds := [], alts := [], laidByText := true, laidKinds := [.data, .data, .data, .pinned], laidTests := true, laidLooks := .later }
def ChainPrefixCardSaid : Prop := Claim7.holds Tryz.pinned (.plain (OpenSpec.ofChange chainPrefixSpec)) chainPrefixCard

/-- THE TIED CARD OF 'munimentlaw17.ChainCodes'. -/
def chainCodesCard : Claim7 := { stood := { row := chainCodesRow, standIns := [], harness := (true, "02bab10e1b2f398e9b72494139a568f18f177bae18e8d427e722e96c68ee45e6"), looks := false }, kinds := [], alts := [], laidByText := true, laidKinds := [.data, .data, .data, .pinned], laidTests := true, laidLooks := .later }
def ChainCodesCardSaid : Prop := Claim7.holds Tryz.pinned (.plain (OpenSpec.ofChange chainCodesSpec)) chainCodesCard

/-- THE SECOND FORM's CARD OF 'munimentlaw17.ChainLinks'. -/
def chainLinksUptoCard : Claim7 := { stood := { row := chainLinksUptoRow, standIns := [], harness := (true, "02bab10e1b2f398e9b72494139a568f18f177bae18e8d427e722e96c68ee45e6"), looks := false }, kinds := [], alts := [], laidByText := true, laidKinds := [.data, .data, .data, .pinned], laidTests := true, laidLooks := .later }
def ChainLinksUptoCardSaid : Prop := Claim7.holds Tryz.pinned (.plain (OpenSpec.upto chainLinksSpec)) chainLinksUptoCard

/-- THE SECOND FORM's CARD OF 'munimentlaw17.ChainVerifies'. -/
def chainVerifiesUptoCard : Claim7 := { stood := { row := chainVerifiesUptoRow, standIns := [], harness := (true, "02bab10e1b2f398e9b72494139a568f18f177bae18e8d427e722e96c68ee45e6"), looks := false }, kinds := [], alts := [], laidByText := true, laidKinds := [.data, .data, .data, .pinned], laidTests := true, laidLooks := .later }
def ChainVerifiesUptoCardSaid : Prop := Claim7.holds Tryz.pinned (.plain (OpenSpec.upto chainVerifiesSpec)) chainVerifiesUptoCard

/-- THE SECOND FORM's CARD OF 'munimentlaw17.ChainPrefix'. -/
def chainPrefixUptoCard : Claim7 := { stood := { row := chainPrefixUptoRow, standIns := [], harness := (true, "02bab10e1b2f398e9b72494139a568f18f177bae18e8d427e722e96c68ee45e6"), looks := false }, kinds := [], alts := [], laidByText := true, laidKinds := [.data, .data, .data, .pinned], laidTests := true, laidLooks := .later }
def ChainPrefixUptoCardSaid : Prop := Claim7.holds Tryz.pinned (.plain (OpenSpec.upto chainPrefixSpec)) chainPrefixUptoCard

/-- THE SECOND FORM's CARD OF 'munimentlaw17.ChainCodes'. -/
def chainCodesUptoCard : Claim7 := { stood := { row := chainCodesUptoRow, standIns := [], harness := (true, "02bab10e1b2f398e9b72494139a568f18f177bae18e8d427e722e96c68ee45e6"), looks := false }, kinds := [], alts := [], laidByText := true, laidKinds := [.data, .data, .data, .pinned], laidTests := true, laidLooks := .later }
def ChainCodesUptoCardSaid : Prop := Claim7.holds Tryz.pinned (.plain (OpenSpec.upto chainCodesSpec)) chainCodesUptoCard
end Rows
end Go.Proofs.YtfkboondffejaaaGreatDoor
