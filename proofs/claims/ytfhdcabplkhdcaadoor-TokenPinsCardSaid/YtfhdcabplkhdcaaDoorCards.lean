/-
  DERIVED. GIVEN WITH THE SEED: THE CARDS: each row of YtfhdcabplkhdcaaDoorRows.lean that lists a variable, with what it lists TIED to the program's text (the seventh form; the later family's looks); each row that meets fmt, with fmt's text TOLD by the authors' own Lean function (tested against real Go, not proved from fmt's source: count such statements apart). THE CARD IS WHAT COUNTS. Prove the row's statement (the work); the ties are given (YtfhdcabplkhdcaaDoorTie.lean); close each card by the builder's one call (the guide's Derived/Test/ToyasCard.lean, 'card_holds'). Laid BY PROGRAM, IN A SANDBOX (cutbox-door.mjs). By AI agents, Wed Nov 11 2026. No macro, syntax, notation, axiom, sorry.
-/
import Derived.Test.YtfhdcabplkhdcaaDoorRows
import GoSem.ClaimSeven
namespace Go.Proofs.YtfhdcabplkhdcaaDoor
namespace Rows

/-- THE TIED CARD OF 'passkeylaw12.TokenPins'. -/
def tokenPinsCard : Claim7 := { stood := { row := tokenPinsRow, standIns := [], harness := (true, "3f4a051287c18f8e0ee95265a18b84484ab8869b1aad588e8be678823d3b9702"), looks := false }, kinds := [], alts := [], laidByText := true, laidKinds := [.data, .pinned], laidTests := true, laidLooks := .later }
def TokenPinsCardSaid : Prop := Claim7.holds Tryd.pinned (.plain (OpenSpec.ofChange tokenPinsSpec)) tokenPinsCard

/-- THE TIED CARD OF 'passkeylaw12.TokenIssues'. -/
def tokenIssuesCard : Claim7 := { stood := { row := tokenIssuesRow, standIns := [], harness := (true, "3f4a051287c18f8e0ee95265a18b84484ab8869b1aad588e8be678823d3b9702"), looks := false }, kinds := [], alts := [], laidByText := true, laidKinds := [.data, .pinned], laidTests := true, laidLooks := .later }
def TokenIssuesCardSaid : Prop := Claim7.holds Tryd.pinned (.plain (OpenSpec.ofChange tokenIssuesSpec)) tokenIssuesCard

/-- THE TIED CARD OF 'passkeylaw12.TokenVerifies'. -/
def tokenVerifiesCard : Claim7 := { stood := { row := tokenVerifiesRow, standIns := [], harness := (true, "3f4a051287c18f8e0ee95265a18b84484ab8869b1aad588e8be678823d3b9702"), looks := false }, kinds := [], alts := [], laidByText := true, laidKinds := [.data, .pinned], laidTests := true, laidLooks := .later }
def TokenVerifiesCardSaid : Prop := Claim7.holds Tryd.pinned (.plain (OpenSpec.ofChange tokenVerifiesSpec)) tokenVerifiesCard

/-- THE TIED CARD OF 'passkeylaw12.TokenOnce'. -/
def tokenOnceCard : Claim7 := { stood := { row := tokenOnceRow, standIns := [], harness := (true, "3f4a051287c18f8e0ee95265a18b84484ab8869b1aad588e8be678823d3b9702"), looks := false }, kinds := [], alts := [], laidByText := true, laidKinds := [.data, .pinned], laidTests := true, laidLooks := .later }
def TokenOnceCardSaid : Prop := Claim7.holds Tryd.pinned (.plain (OpenSpec.ofChange tokenOnceSpec)) tokenOnceCard

/-- THE TIED CARD OF 'passkeylaw12.TokenBack'. -/
def tokenBackCard : Claim7 := { stood := { row := tokenBackRow, standIns := [], harness := (true, "3f4a051287c18f8e0ee95265a18b84484ab8869b1aad588e8be678823d3b9702"), looks := false }, kinds := [], alts := [], laidByText := true, laidKinds := [.data, .pinned], laidTests := true, laidLooks := .later }
def TokenBackCardSaid : Prop := Claim7.holds Tryd.pinned (.plain (OpenSpec.ofChange tokenBackSpec)) tokenBackCard

/-- THE TIED CARD OF 'passkeylaw12.TokenWords'. -/
def tokenWordsCard : Claim7 := { stood := { row := tokenWordsRow, standIns := [], harness := (true, "3f4a051287c18f8e0ee95265a18b84484ab8869b1aad588e8be678823d3b9702"), looks := false }, kinds := [], alts := [], laidByText := true, laidKinds := [.data, .pinned], laidTests := true, laidLooks := .later }
def TokenWordsCardSaid : Prop := Claim7.holds Tryd.pinned (.plain (OpenSpec.ofChange tokenWordsSpec)) tokenWordsCard

/-- THE SECOND FORM's CARD OF 'passkeylaw12.TokenPins'. -/
def tokenPinsUptoCard : Claim7 := { stood := { row := tokenPinsUptoRow, standIns := [], harness := (true, "3f4a051287c18f8e0ee95265a18b84484ab8869b1aad588e8be678823d3b9702"), looks := false }, kinds := [], alts := [], laidByText := true, laidKinds := [.data, .pinned], laidTests := true, laidLooks := .later }
def TokenPinsUptoCardSaid : Prop := Claim7.holds Tryd.pinned (.plain (OpenSpec.upto tokenPinsSpec)) tokenPinsUptoCard

/-- THE SECOND FORM's CARD OF 'passkeylaw12.TokenIssues'. -/
def tokenIssuesUptoCard : Claim7 := { stood := { row := tokenIssuesUptoRow, standIns := [], harness := (true, "3f4a051287c18f8e0ee95265a18b84484ab8869b1aad588e8be678823d3b9702"), looks := false }, kinds := [], alts := [], laidByText := true, laidKinds := [.data, .pinned], laidTests := true, laidLooks := .later }
def TokenIssuesUptoCardSaid : Prop := Claim7.holds Tryd.pinned (.plain (OpenSpec.upto tokenIssuesSpec)) tokenIssuesUptoCard

/-- THE SECOND FORM's CARD OF 'passkeylaw12.TokenVerifies'. -/
def tokenVerifiesUptoCard : Claim7 := { stood := { row := tokenVerifiesUptoRow, standIns := [], harness := (true, "3f4a051287c18f8e0ee95265a18b84484ab8869b1aad588e8be678823d3b9702"), looks := false }, kinds := [], alts := [], laidByText := true, laidKinds := [.data, .pinned], laidTests := true, laidLooks := .later }
def TokenVerifiesUptoCardSaid : Prop := Claim7.holds Tryd.pinned (.plain (OpenSpec.upto tokenVerifiesSpec)) tokenVerifiesUptoCard

/-- THE SECOND FORM's CARD OF 'passkeylaw12.TokenOnce'. -/
def tokenOnceUptoCard : Claim7 := { stood := { row := tokenOnceUptoRow, standIns := [], harness := (true, "3f4a051287c18f8e0ee95265a18b84484ab8869b1aad588e8be678823d3b9702"), looks := false }, kinds := [], alts := [], laidByText := true, laidKinds := [.data, .pinned], laidTests := true, laidLooks := .later }
def TokenOnceUptoCardSaid : Prop := Claim7.holds Tryd.pinned (.plain (OpenSpec.upto tokenOnceSpec)) tokenOnceUptoCard

/-- THE SECOND FORM's CARD OF 'passkeylaw12.TokenBack'. -/
def tokenBackUptoCard : Claim7 := { stood := { row := tokenBackUptoRow, standIns := [], harness := (true, "3f4a051287c18f8e0ee95265a18b84484ab8869b1aad588e8be678823d3b9702"), looks := false }, kinds := [], alts := [], laidByText := true, laidKinds := [.data, .pinned], laidTests := true, laidLooks := .later }
def TokenBackUptoCardSaid : Prop := Claim7.holds Tryd.pinned (.plain (OpenSpec.upto tokenBackSpec)) tokenBackUptoCard

/-- THE SECOND FORM's CARD OF 'passkeylaw12.TokenWords'. -/
def tokenWordsUptoCard : Claim7 := { stood := { row := tokenWordsUptoRow, standIns := [], harness := (true, "3f4a051287c18f8e0ee95265a18b84484ab8869b1aad588e8be678823d3b9702"), looks := false }, kinds := [], alts := [], laidByText := true, laidKinds := [.data, .pinned], laidTests := true, laidLooks := .later }
def TokenWordsUptoCardSaid : Prop := Claim7.holds Tryd.pinned (.plain (OpenSpec.upto tokenWordsSpec)) tokenWordsUptoCard
end Rows
end Go.Proofs.YtfhdcabplkhdcaaDoor
