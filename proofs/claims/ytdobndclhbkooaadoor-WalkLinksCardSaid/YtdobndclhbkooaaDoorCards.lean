/-
  DERIVED. GIVEN WITH THE SEED: THE CARDS: each row of YtdobndclhbkooaaDoorRows.lean that lists a variable, with what it lists TIED to the program's text (the seventh form; the later family's looks); each row that meets fmt, with fmt's text TOLD by the authors' own Lean function (tested against real Go, not proved from fmt's source: count such statements apart). THE CARD IS WHAT COUNTS. Prove the row's statement (the work); the ties are given (YtdobndclhbkooaaDoorTie.lean); close each card by the builder's one call (the guide's Derived/Test/ToyasCard.lean, 'card_holds'). Laid BY PROGRAM, IN A SANDBOX (cutbox-door.mjs). By AI agents, Wed Nov 11 2026. No macro, syntax, notation, axiom, sorry.
-/
import Derived.Test.YtdobndclhbkooaaDoorRows
import GoSem.ClaimSeven
namespace Go.Proofs.YtdobndclhbkooaaDoor
namespace Rows

/-- THE TIED CARD OF 'marionettelaw16.WalkPlain'. -/
def walkPlainCard : Claim7 := { stood := { row := walkPlainRow, standIns := [], harness := (true, "a2fbc5aa878b272c71f49df3e2cd0249c7fd317a186f1f0a661cbbb68836f7bf"), looks := false }, kinds := [], alts := [], laidByText := true, laidKinds := [.data, .pinned], laidTests := true, laidLooks := .later }
def WalkPlainCardSaid : Prop := Claim7.holds Tryd.pinned (.plain (OpenSpec.ofChange walkPlainSpec)) walkPlainCard

/-- THE TIED CARD OF 'marionettelaw16.WalkLinks'. -/
def walkLinksCard : Claim7 := { stood := { row := walkLinksRow, standIns := [], harness := (true, "a2fbc5aa878b272c71f49df3e2cd0249c7fd317a186f1f0a661cbbb68836f7bf"), looks := false }, kinds := [], alts := [], laidByText := true, laidKinds := [.data, .pinned], laidTests := true, laidLooks := .later }
def WalkLinksCardSaid : Prop := Claim7.holds Tryd.pinned (.plain (OpenSpec.ofChange walkLinksSpec)) walkLinksCard

/-- THE TIED CARD OF 'marionettelaw15.NodeTree'. -/
def nodeTreeCard : Claim7 := { stood := { row := nodeTreeRow, standIns := [], harness := (true, "a2fbc5aa878b272c71f49df3e2cd0249c7fd317a186f1f0a661cbbb68836f7bf"), looks := false }, kinds := [], alts := [], laidByText := true, laidKinds := [.data, .pinned], laidTests := true, laidLooks := .later }
def NodeTreeCardSaid : Prop := Claim7.holds Tryd.pinned (.plain (OpenSpec.ofChange nodeTreeSpec)) nodeTreeCard

/-- THE TIED CARD OF 'marionettelaw15.NodeNone'. -/
def nodeNoneCard : Claim7 := { stood := { row := nodeNoneRow, standIns := [], harness := (true, "a2fbc5aa878b272c71f49df3e2cd0249c7fd317a186f1f0a661cbbb68836f7bf"), looks := false }, kinds := [], alts := [], laidByText := true, laidKinds := [.data, .pinned], laidTests := true, laidLooks := .later }
def NodeNoneCardSaid : Prop := Claim7.holds Tryd.pinned (.plain (OpenSpec.ofChange nodeNoneSpec)) nodeNoneCard

/-- THE TIED CARD OF 'marionettelaw20.FilesAppend'. -/
def filesAppendCard : Claim7 := { stood := { row := filesAppendRow, standIns := [], harness := (true, "a2fbc5aa878b272c71f49df3e2cd0249c7fd317a186f1f0a661cbbb68836f7bf"), looks := false }, kinds := [], alts := [], laidByText := true, laidKinds := [.data, .pinned], laidTests := true, laidLooks := .later }
def FilesAppendCardSaid : Prop := Claim7.holds Tryd.pinned (.plain (OpenSpec.ofChange filesAppendSpec)) filesAppendCard

/-- THE TIED CARD OF 'marionettelaw20.FilesLinks'. -/
def filesLinksCard : Claim7 := { stood := { row := filesLinksRow, standIns := [], harness := (true, "a2fbc5aa878b272c71f49df3e2cd0249c7fd317a186f1f0a661cbbb68836f7bf"), looks := false }, kinds := [], alts := [], laidByText := true, laidKinds := [.data, .pinned], laidTests := true, laidLooks := .later }
def FilesLinksCardSaid : Prop := Claim7.holds Tryd.pinned (.plain (OpenSpec.ofChange filesLinksSpec)) filesLinksCard

/-- THE TIED CARD OF 'marionettelaw20.FilesBack'. -/
def filesBackCard : Claim7 := { stood := { row := filesBackRow, standIns := [], harness := (true, "a2fbc5aa878b272c71f49df3e2cd0249c7fd317a186f1f0a661cbbb68836f7bf"), looks := false }, kinds := [], alts := [], laidByText := true, laidKinds := [.data, .pinned], laidTests := true, laidLooks := .later }
def FilesBackCardSaid : Prop := Claim7.holds Tryd.pinned (.plain (OpenSpec.ofChange filesBackSpec)) filesBackCard

/-- THE SECOND FORM's CARD OF 'marionettelaw16.WalkPlain'. -/
def walkPlainUptoCard : Claim7 := { stood := { row := walkPlainUptoRow, standIns := [], harness := (true, "a2fbc5aa878b272c71f49df3e2cd0249c7fd317a186f1f0a661cbbb68836f7bf"), looks := false }, kinds := [], alts := [], laidByText := true, laidKinds := [.data, .pinned], laidTests := true, laidLooks := .later }
def WalkPlainUptoCardSaid : Prop := Claim7.holds Tryd.pinned (.plain (OpenSpec.upto walkPlainSpec)) walkPlainUptoCard

/-- THE SECOND FORM's CARD OF 'marionettelaw16.WalkLinks'. -/
def walkLinksUptoCard : Claim7 := { stood := { row := walkLinksUptoRow, standIns := [], harness := (true, "a2fbc5aa878b272c71f49df3e2cd0249c7fd317a186f1f0a661cbbb68836f7bf"), looks := false }, kinds := [], alts := [], laidByText := true, laidKinds := [.data, .pinned], laidTests := true, laidLooks := .later }
def WalkLinksUptoCardSaid : Prop := Claim7.holds Tryd.pinned (.plain (OpenSpec.upto walkLinksSpec)) walkLinksUptoCard

/-- THE SECOND FORM's CARD OF 'marionettelaw15.NodeTree'. -/
def nodeTreeUptoCard : Claim7 := { stood := { row := nodeTreeUptoRow, standIns := [], harness := (true, "a2fbc5aa878b272c71f49df3e2cd0249c7fd317a186f1f0a661cbbb68836f7bf"), looks := false }, kinds := [], alts := [], laidByText := true, laidKinds := [.data, .pinned], laidTests := true, laidLooks := .later }
def NodeTreeUptoCardSaid : Prop := Claim7.holds Tryd.pinned (.plain (OpenSpec.upto nodeTreeSpec)) nodeTreeUptoCard

/-- THE SECOND FORM's CARD OF 'marionettelaw15.NodeNone'. -/
def nodeNoneUptoCard : Claim7 := { stood := { row := nodeNoneUptoRow, standIns := [], harness := (true, "a2fbc5aa878b272c71f49df3e2cd0249c7fd317a186f1f0a661cbbb68836f7bf"), looks := false }, kinds := [], alts := [], laidByText := true, laidKinds := [.data, .pinned], laidTests := true, laidLooks := .later }
def NodeNoneUptoCardSaid : Prop := Claim7.holds Tryd.pinned (.plain (OpenSpec.upto nodeNoneSpec)) nodeNoneUptoCard

/-- THE SECOND FORM's CARD OF 'marionettelaw20.FilesAppend'. -/
def filesAppendUptoCard : Claim7 := { stood := { row := filesAppendUptoRow, standIns := [], harness := (true, "a2fbc5aa878b272c71f49df3e2cd0249c7fd317a186f1f0a661cbbb68836f7bf"), looks := false }, kinds := [], alts := [], laidByText := true, laidKinds := [.data, .pinned], laidTests := true, laidLooks := .later }
def FilesAppendUptoCardSaid : Prop := Claim7.holds Tryd.pinned (.plain (OpenSpec.upto filesAppendSpec)) filesAppendUptoCard

/-- THE SECOND FORM's CARD OF 'marionettelaw20.FilesLinks'. -/
def filesLinksUptoCard : Claim7 := { stood := { row := filesLinksUptoRow, standIns := [], harness := (true, "a2fbc5aa878b272c71f49df3e2cd0249c7fd317a186f1f0a661cbbb68836f7bf"), looks := false }, kinds := [], alts := [], laidByText := true, laidKinds := [.data, .pinned], laidTests := true, laidLooks := .later }
def FilesLinksUptoCardSaid : Prop := Claim7.holds Tryd.pinned (.plain (OpenSpec.upto filesLinksSpec)) filesLinksUptoCard

/-- THE SECOND FORM's CARD OF 'marionettelaw20.FilesBack'. -/
def filesBackUptoCard : Claim7 := { stood := { row := filesBackUptoRow, standIns := [], harness := (true, "a2fbc5aa878b272c71f49df3e2cd0249c7fd317a186f1f0a661cbbb68836f7bf"), looks := false }, kinds := [], alts := [], laidByText := true, laidKinds := [.data, .pinned], laidTests := true, laidLooks := .later }
def FilesBackUptoCardSaid : Prop := Claim7.holds Tryd.pinned (.plain (OpenSpec.upto filesBackSpec)) filesBackUptoCard
end Rows
end Go.Proofs.YtdobndclhbkooaaDoor
