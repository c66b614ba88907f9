/-
  NARROWER THAN 'FOR EVERY INPUT', by the rows' own cells (each row's printed sentence says how): WalkPlain: laid · WalkLinks: laid · NodeTree: laid · NodeNone: laid · FilesAppend: laid · FilesLinks: laid · FilesBack: laid.
  DERIVED. THE GIVEN ROWS OF THIS SEAT. 7 by the template 'for every input the law returns true; each argument reads behind the call as it read before'; 0 by the template 'total and deterministic' (their statements: YtdobndclhbkooaaDoorTotals.lean).
  GIVEN WITH THE SEED: the statements are not yours to turn. If you find one false, say at which input.
  Laid BY PROGRAM, IN A SANDBOX (cutbox-rows.mjs): the forced cells as the released guide's own fill.sh prints them over the translation fbf9227d6134b6d6… (all of the seat's roots in one cut). By AI agents, Wed Nov 11 2026. No macro, syntax, notation, axiom, sorry.
-/
import Derived.Test.YtdobndclhbkooaaDoorChecked
import GoSem.PinnedTables
import GoSem.Claim
import GoSem.ClaimJoined
import GoSem.ClaimMapViews
import Derived.JoinedTies
import Derived.KernelRfl
namespace Go.Proofs.YtdobndclhbkooaaDoor
/- THE CELL 'sum', in the pinned program and in every row, IS THE sha256 OF THE DUMP (.gsa) THAT YtdobndclhbkooaaDoorProg.lean LOADS. Nothing in Lean hashes anything: it is a label: what it is worth is what the hold of that sum in a sandbox is worth. -/
noncomputable def Tryd.pinned : Pinned := { name := "ytdobndclhbkooaadoor", sum := "fbf9227d6134b6d6673f6a5b2fc2531391c1ad1af384deda77686cc307450dbe", checked := Tryd.checked }
namespace Rows
def none {H : Type} : Left H := { results := [], args := [] }

/- WHAT THE LISTED PACKAGE-LEVEL VARIABLES READ AS WHEN THE CALL BEGINS. Each datum BY PROGRAM (the guide's laid-datum.mjs) off the statement by which the dump's own 'gosem.cut.vars' lays the variable. In a bare row this is a premise. The card (YtdobndclhbkooaaDoorCards.lean) ties it to the program's text. -/
def laid_unicode_utf8_acceptRanges {H : Type} : DataW H := .agg [.agg [.lit (.int .u8 128), .lit (.int .u8 191)], .agg [.lit (.int .u8 160), .lit (.int .u8 191)], .agg [.lit (.int .u8 128), .lit (.int .u8 159)], .agg [.lit (.int .u8 144), .lit (.int .u8 191)], .agg [.lit (.int .u8 128), .lit (.int .u8 143)], .agg [.lit (.int .u8 0), .lit (.int .u8 0)], .agg [.lit (.int .u8 0), .lit (.int .u8 0)], .agg [.lit (.int .u8 0), .lit (.int .u8 0)], .agg [.lit (.int .u8 0), .lit (.int .u8 0)], .agg [.lit (.int .u8 0), .lit (.int .u8 0)], .agg [.lit (.int .u8 0), .lit (.int .u8 0)], .agg [.lit (.int .u8 0), .lit (.int .u8 0)], .agg [.lit (.int .u8 0), .lit (.int .u8 0)], .agg [.lit (.int .u8 0), .lit (.int .u8 0)], .agg [.lit (.int .u8 0), .lit (.int .u8 0)], .agg [.lit (.int .u8 0), .lit (.int .u8 0)]]
/-- One of Go's own tables, pinned by name: the form's constant. -/
def laid_unicode_utf8_first : DataW Unit := Go.Pinned.utf8First

/-- 'marionettelaw16.WalkPlain': WHATEVER THE INPUT: true; the input reads as it did. -/
def walkPlainSpec : ChangeSpec := { name := "walkPlain", fn := fun _ => fun
  | [d1, d2] => { results := [.lit (.bool true)], args := [d1, d2] }
  | _ => none }
def walkPlainRow : OpenClaim := { program := "ytdobndclhbkooaadoor", sum := "fbf9227d6134b6d6673f6a5b2fc2531391c1ad1af384deda77686cc307450dbe", func := "marionette/marionettelaw16.WalkPlain", spec := "walkPlain", inPlace := ["internal/bytealg.CountString", "internal/bytealg.IndexByteString", "internal/bytealg.IndexString", "internal/bytealg.IndexByte"], unfollowed := true, recurses := true, named := ["unicode/utf8.first", "unicode/utf8.acceptRanges", "internal/bytealg.MaxLen"], apart := false, laid := [("unicode/utf8.acceptRanges", laid_unicode_utf8_acceptRanges), ("unicode/utf8.first", laid_unicode_utf8_first)] }
def WalkPlainSaid : Prop := walkPlainRow.holds Tryd.pinned (OpenSpec.ofChange walkPlainSpec)

/-- ITS FALSE NEIGHBOUR: 'it returns false'. Refute it at one input. -/
def walkPlainWrong : ChangeSpec := { name := "walkPlain", fn := fun _ => fun
  | [d1, d2] => { results := [.lit (.bool false)], args := [d1, d2] }
  | _ => none }
def WalkPlainWrongFalsely : Prop := walkPlainRow.holds Tryd.pinned (OpenSpec.ofChange walkPlainWrong)

/-- 'marionettelaw16.WalkLinks': WHATEVER THE INPUT: true; the input reads as it did. -/
def walkLinksSpec : ChangeSpec := { name := "walkLinks", fn := fun _ => fun
  | [d1, d2] => { results := [.lit (.bool true)], args := [d1, d2] }
  | _ => none }
def walkLinksRow : OpenClaim := { program := "ytdobndclhbkooaadoor", sum := "fbf9227d6134b6d6673f6a5b2fc2531391c1ad1af384deda77686cc307450dbe", func := "marionette/marionettelaw16.WalkLinks", spec := "walkLinks", inPlace := ["internal/bytealg.CountString", "internal/bytealg.IndexByteString", "internal/bytealg.IndexString", "internal/bytealg.IndexByte"], unfollowed := true, recurses := true, named := ["unicode/utf8.first", "unicode/utf8.acceptRanges", "internal/bytealg.MaxLen"], apart := false, laid := [("unicode/utf8.acceptRanges", laid_unicode_utf8_acceptRanges), ("unicode/utf8.first", laid_unicode_utf8_first)] }
def WalkLinksSaid : Prop := walkLinksRow.holds Tryd.pinned (OpenSpec.ofChange walkLinksSpec)

/-- ITS FALSE NEIGHBOUR: 'it returns false'. Refute it at one input. -/
def walkLinksWrong : ChangeSpec := { name := "walkLinks", fn := fun _ => fun
  | [d1, d2] => { results := [.lit (.bool false)], args := [d1, d2] }
  | _ => none }
def WalkLinksWrongFalsely : Prop := walkLinksRow.holds Tryd.pinned (OpenSpec.ofChange walkLinksWrong)

/-- 'marionettelaw15.NodeTree': WHATEVER THE INPUT: true; the input reads as it did. -/
def nodeTreeSpec : ChangeSpec := { name := "nodeTree", fn := fun _ => fun
  | [d] => { results := [.lit (.bool true)], args := [d] }
  | _ => none }
def nodeTreeRow : OpenClaim := { program := "ytdobndclhbkooaadoor", sum := "fbf9227d6134b6d6673f6a5b2fc2531391c1ad1af384deda77686cc307450dbe", func := "marionette/marionettelaw15.NodeTree", spec := "nodeTree", inPlace := ["internal/bytealg.CountString", "internal/bytealg.IndexByteString", "internal/bytealg.IndexString", "internal/bytealg.IndexByte"], unfollowed := true, recurses := true, named := ["unicode/utf8.first", "unicode/utf8.acceptRanges", "internal/bytealg.MaxLen"], apart := false, laid := [("unicode/utf8.acceptRanges", laid_unicode_utf8_acceptRanges), ("unicode/utf8.first", laid_unicode_utf8_first)] }
def NodeTreeSaid : Prop := nodeTreeRow.holds Tryd.pinned (OpenSpec.ofChange nodeTreeSpec)

/-- ITS FALSE NEIGHBOUR: 'it returns false'. Refute it at one input. -/
def nodeTreeWrong : ChangeSpec := { name := "nodeTree", fn := fun _ => fun
  | [d] => { results := [.lit (.bool false)], args := [d] }
  | _ => none }
def NodeTreeWrongFalsely : Prop := nodeTreeRow.holds Tryd.pinned (OpenSpec.ofChange nodeTreeWrong)

/-- 'marionettelaw15.NodeNone': WHATEVER THE INPUT: true; the input reads as it did. -/
def nodeNoneSpec : ChangeSpec := { name := "nodeNone", fn := fun _ => fun
  | [d] => { results := [.lit (.bool true)], args := [d] }
  | _ => none }
def nodeNoneRow : OpenClaim := { program := "ytdobndclhbkooaadoor", sum := "fbf9227d6134b6d6673f6a5b2fc2531391c1ad1af384deda77686cc307450dbe", func := "marionette/marionettelaw15.NodeNone", spec := "nodeNone", inPlace := ["internal/bytealg.CountString", "internal/bytealg.IndexByteString", "internal/bytealg.IndexString", "internal/bytealg.IndexByte"], unfollowed := true, recurses := true, named := ["unicode/utf8.first", "unicode/utf8.acceptRanges", "internal/bytealg.MaxLen"], apart := false, laid := [("unicode/utf8.acceptRanges", laid_unicode_utf8_acceptRanges), ("unicode/utf8.first", laid_unicode_utf8_first)] }
def NodeNoneSaid : Prop := nodeNoneRow.holds Tryd.pinned (OpenSpec.ofChange nodeNoneSpec)

/-- ITS FALSE NEIGHBOUR: 'it returns false'. Refute it at one input. -/
def nodeNoneWrong : ChangeSpec := { name := "nodeNone", fn := fun _ => fun
  | [d] => { results := [.lit (.bool false)], args := [d] }
  | _ => none }
def NodeNoneWrongFalsely : Prop := nodeNoneRow.holds Tryd.pinned (OpenSpec.ofChange nodeNoneWrong)

/-- 'marionettelaw20.FilesAppend': WHATEVER THE INPUT: true; the input reads as it did. -/
def filesAppendSpec : ChangeSpec := { name := "filesAppend", fn := fun _ => fun
  | [d] => { results := [.lit (.bool true)], args := [d] }
  | _ => none }
def filesAppendRow : OpenClaim := { program := "ytdobndclhbkooaadoor", sum := "fbf9227d6134b6d6673f6a5b2fc2531391c1ad1af384deda77686cc307450dbe", func := "marionette/marionettelaw20.FilesAppend", spec := "filesAppend", inPlace := ["internal/bytealg.CountString", "internal/bytealg.IndexByteString", "internal/bytealg.IndexString", "internal/bytealg.IndexByte"], unfollowed := true, recurses := true, named := ["unicode/utf8.first", "unicode/utf8.acceptRanges", "internal/bytealg.MaxLen"], apart := false, laid := [("unicode/utf8.acceptRanges", laid_unicode_utf8_acceptRanges), ("unicode/utf8.first", laid_unicode_utf8_first)] }
def FilesAppendSaid : Prop := filesAppendRow.holds Tryd.pinned (OpenSpec.ofChange filesAppendSpec)

/-- ITS FALSE NEIGHBOUR: 'it returns false'. Refute it at one input. -/
def filesAppendWrong : ChangeSpec := { name := "filesAppend", fn := fun _ => fun
  | [d] => { results := [.lit (.bool false)], args := [d] }
  | _ => none }
def FilesAppendWrongFalsely : Prop := filesAppendRow.holds Tryd.pinned (OpenSpec.ofChange filesAppendWrong)

/-- 'marionettelaw20.FilesLinks': WHATEVER THE INPUT: true; the input reads as it did. -/
def filesLinksSpec : ChangeSpec := { name := "filesLinks", fn := fun _ => fun
  | [d1, d2] => { results := [.lit (.bool true)], args := [d1, d2] }
  | _ => none }
def filesLinksRow : OpenClaim := { program := "ytdobndclhbkooaadoor", sum := "fbf9227d6134b6d6673f6a5b2fc2531391c1ad1af384deda77686cc307450dbe", func := "marionette/marionettelaw20.FilesLinks", spec := "filesLinks", inPlace := ["internal/bytealg.CountString", "internal/bytealg.IndexByteString", "internal/bytealg.IndexString", "internal/bytealg.IndexByte"], unfollowed := true, recurses := true, named := ["unicode/utf8.first", "unicode/utf8.acceptRanges", "internal/bytealg.MaxLen"], apart := false, laid := [("unicode/utf8.acceptRanges", laid_unicode_utf8_acceptRanges), ("unicode/utf8.first", laid_unicode_utf8_first)] }
def FilesLinksSaid : Prop := filesLinksRow.holds Tryd.pinned (OpenSpec.ofChange filesLinksSpec)

/-- ITS FALSE NEIGHBOUR: 'it returns false'. Refute it at one input. -/
def filesLinksWrong : ChangeSpec := { name := "filesLinks", fn := fun _ => fun
  | [d1, d2] => { results := [.lit (.bool false)], args := [d1, d2] }
  | _ => none }
def FilesLinksWrongFalsely : Prop := filesLinksRow.holds Tryd.pinned (OpenSpec.ofChange filesLinksWrong)

/-- 'marionettelaw20.FilesBack': WHATEVER THE INPUT: true; the input reads as it did. -/
def filesBackSpec : ChangeSpec := { name := "filesBack", fn := fun _ => fun
  | [d1, d2, d3] => { results := [.lit (.bool true)], args := [d1, d2, d3] }
  | _ => none }
def filesBackRow : OpenClaim := { program := "ytdobndclhbkooaadoor", sum := "fbf9227d6134b6d6673f6a5b2fc2531391c1ad1af384deda77686cc307450dbe", func := "marionette/marionettelaw20.FilesBack", spec := "filesBack", inPlace := ["internal/bytealg.CountString", "internal/bytealg.IndexByteString", "internal/bytealg.IndexString", "internal/bytealg.IndexByte"], unfollowed := true, recurses := true, named := ["unicode/utf8.first", "unicode/utf8.acceptRanges", "internal/bytealg.MaxLen"], apart := false, laid := [("unicode/utf8.acceptRanges", laid_unicode_utf8_acceptRanges), ("unicode/utf8.first", laid_unicode_utf8_first)] }
def FilesBackSaid : Prop := filesBackRow.holds Tryd.pinned (OpenSpec.ofChange filesBackSpec)

/-- ITS FALSE NEIGHBOUR: 'it returns false'. Refute it at one input. -/
def filesBackWrong : ChangeSpec := { name := "filesBack", fn := fun _ => fun
  | [d1, d2, d3] => { results := [.lit (.bool false)], args := [d1, d2, d3] }
  | _ => none }
def FilesBackWrongFalsely : Prop := filesBackRow.holds Tryd.pinned (OpenSpec.ofChange filesBackWrong)

/- THE SECOND FORM. 'bulk': how many values and letters a reading holds, each counted each time it is reached (what is shared counts as often as it is met; a slice's spare places count too). A statement '..UptoSaid' is the law's where the arguments, and the package variables that the reading takes, are together of bulk at most 1048576: NARROWER than '..Said'. Prove '..Said' where nothing that the law and all that it calls make is longer than what came in: it says more and counts as full. Else prove '..UptoSaid'. A law counts once. -/
mutual
def uptoBulk {H : Type} : DataW H → Nat
  | .lit (.string bytes) => bytes.length + 1
  | .lit _ => 1
  | .nil => 1
  | .ptr d => uptoBulk d + 1
  | .slice elems spare => uptoBulkAll elems + uptoBulkAll spare + 1
  | .agg parts => uptoBulkAll parts + 1
  | .iface _ d => uptoBulk d + 1
  | .map entries => uptoBulkEntries entries + 1
  | .held _ => 1
def uptoBulkAll {H : Type} : List (DataW H) → Nat
  | [] => 0
  | d :: r => uptoBulk d + uptoBulkAll r
def uptoBulkEntries {H : Type} : List (Lit × DataW H) → Nat
  | [] => 0
  | x :: r => uptoBulkEntry x + uptoBulkEntries r
def uptoBulkEntry {H : Type} : Lit × DataW H → Nat
  | (.string bytes, d) => bytes.length + uptoBulk d + 1
  | (_, d) => uptoBulk d + 1
 end
def uptoSmall : (H : Type) → List (DataW H) → Bool := fun _ ds => decide (uptoBulkAll ds ≤ 1048576)
def OpenSpec.upto (s : _root_.Go.ChangeSpec) : _root_.Go.OpenSpec := { _root_.Go.OpenSpec.ofChange s with cond := some uptoSmall }

/-- 'marionettelaw16.WalkPlain', WHERE WHAT IT READS IS OF BULK AT MOST 1048576: true; the input reads as it did. -/
def walkPlainUptoRow : OpenClaim := { program := "ytdobndclhbkooaadoor", sum := "fbf9227d6134b6d6673f6a5b2fc2531391c1ad1af384deda77686cc307450dbe", func := "marionette/marionettelaw16.WalkPlain", spec := "walkPlain", inPlace := ["internal/bytealg.CountString", "internal/bytealg.IndexByteString", "internal/bytealg.IndexString", "internal/bytealg.IndexByte"], unfollowed := true, recurses := true, named := ["unicode/utf8.first", "unicode/utf8.acceptRanges", "internal/bytealg.MaxLen"], apart := false, laid := [("unicode/utf8.acceptRanges", laid_unicode_utf8_acceptRanges), ("unicode/utf8.first", laid_unicode_utf8_first)], narrowed := true }
def WalkPlainUptoSaid : Prop := walkPlainUptoRow.holds Tryd.pinned (OpenSpec.upto walkPlainSpec)

/-- 'marionettelaw16.WalkLinks', WHERE WHAT IT READS IS OF BULK AT MOST 1048576: true; the input reads as it did. -/
def walkLinksUptoRow : OpenClaim := { program := "ytdobndclhbkooaadoor", sum := "fbf9227d6134b6d6673f6a5b2fc2531391c1ad1af384deda77686cc307450dbe", func := "marionette/marionettelaw16.WalkLinks", spec := "walkLinks", inPlace := ["internal/bytealg.CountString", "internal/bytealg.IndexByteString", "internal/bytealg.IndexString", "internal/bytealg.IndexByte"], unfollowed := true, recurses := true, named := ["unicode/utf8.first", "unicode/utf8.acceptRanges", "internal/bytealg.MaxLen"], apart := false, laid := [("unicode/utf8.acceptRanges", laid_unicode_utf8_acceptRanges), ("unicode/utf8.first", laid_unicode_utf8_first)], narrowed := true }
def WalkLinksUptoSaid : Prop := walkLinksUptoRow.holds Tryd.pinned (OpenSpec.upto walkLinksSpec)

/-- 'marionettelaw15.NodeTree', WHERE WHAT IT READS IS OF BULK AT MOST 1048576: true; the input reads as it did. -/
def nodeTreeUptoRow : OpenClaim := { program := "ytdobndclhbkooaadoor", sum := "fbf9227d6134b6d6673f6a5b2fc2531391c1ad1af384deda77686cc307450dbe", func := "marionette/marionettelaw15.NodeTree", spec := "nodeTree", inPlace := ["internal/bytealg.CountString", "internal/bytealg.IndexByteString", "internal/bytealg.IndexString", "internal/bytealg.IndexByte"], unfollowed := true, recurses := true, named := ["unicode/utf8.first", "unicode/utf8.acceptRanges", "internal/bytealg.MaxLen"], apart := false, laid := [("unicode/utf8.acceptRanges", laid_unicode_utf8_acceptRanges), ("unicode/utf8.first", laid_unicode_utf8_first)], narrowed := true }
def NodeTreeUptoSaid : Prop := nodeTreeUptoRow.holds Tryd.pinned (OpenSpec.upto nodeTreeSpec)

/-- 'marionettelaw15.NodeNone', WHERE WHAT IT READS IS OF BULK AT MOST 1048576: true; the input reads as it did. -/
def nodeNoneUptoRow : OpenClaim := { program := "ytdobndclhbkooaadoor", sum := "fbf9227d6134b6d6673f6a5b2fc2531391c1ad1af384deda77686cc307450dbe", func := "marionette/marionettelaw15.NodeNone", spec := "nodeNone", inPlace := ["internal/bytealg.CountString", "internal/bytealg.IndexByteString", "internal/bytealg.IndexString", "internal/bytealg.IndexByte"], unfollowed := true, recurses := true, named := ["unicode/utf8.first", "unicode/utf8.acceptRanges", "internal/bytealg.MaxLen"], apart := false, laid := [("unicode/utf8.acceptRanges", laid_unicode_utf8_acceptRanges), ("unicode/utf8.first", laid_unicode_utf8_first)], narrowed := true }
def NodeNoneUptoSaid : Prop := nodeNoneUptoRow.holds Tryd.pinned (OpenSpec.upto nodeNoneSpec)

/-- 'marionettelaw20.FilesAppend', WHERE WHAT IT READS IS OF BULK AT MOST 1048576: true; the input reads as it did. -/
def filesAppendUptoRow : OpenClaim := { program := "ytdobndclhbkooaadoor", sum := "fbf9227d6134b6d6673f6a5b2fc2531391c1ad1af384deda77686cc307450dbe", func := "marionette/marionettelaw20.FilesAppend", spec := "filesAppend", inPlace := ["internal/bytealg.CountString", "internal/bytealg.IndexByteString", "internal/bytealg.IndexString", "internal/bytealg.IndexByte"], unfollowed := true, recurses := true, named := ["unicode/utf8.first", "unicode/utf8.acceptRanges", "internal/bytealg.MaxLen"], apart := false, laid := [("unicode/utf8.acceptRanges", laid_unicode_utf8_acceptRanges), ("unicode/utf8.first", laid_unicode_utf8_first)], narrowed := true }
def FilesAppendUptoSaid : Prop := filesAppendUptoRow.holds Tryd.pinned (OpenSpec.upto filesAppendSpec)

/-- 'marionettelaw20.FilesLinks', WHERE WHAT IT READS IS OF BULK AT MOST 1048576: true; the input reads as it did. -/
def filesLinksUptoRow : OpenClaim := { program := "ytdobndclhbkooaadoor", sum := "fbf9227d6134b6d6673f6a5b2fc2531391c1ad1af384deda77686cc307450dbe", func := "marionette/marionettelaw20.FilesLinks", spec := "filesLinks", inPlace := ["internal/bytealg.CountString", "internal/bytealg.IndexByteString", "internal/bytealg.IndexString", "internal/bytealg.IndexByte"], unfollowed := true, recurses := true, named := ["unicode/utf8.first", "unicode/utf8.acceptRanges", "internal/bytealg.MaxLen"], apart := false, laid := [("unicode/utf8.acceptRanges", laid_unicode_utf8_acceptRanges), ("unicode/utf8.first", laid_unicode_utf8_first)], narrowed := true }
def FilesLinksUptoSaid : Prop := filesLinksUptoRow.holds Tryd.pinned (OpenSpec.upto filesLinksSpec)

/-- 'marionettelaw20.FilesBack', WHERE WHAT IT READS IS OF BULK AT MOST 1048576: true; the input reads as it did. -/
def filesBackUptoRow : OpenClaim := { program := "ytdobndclhbkooaadoor", sum := "fbf9227d6134b6d6673f6a5b2fc2531391c1ad1af384deda77686cc307450dbe", func := "marionette/marionettelaw20.FilesBack", spec := "filesBack", inPlace := ["internal/bytealg.CountString", "internal/bytealg.IndexByteString", "internal/bytealg.IndexString", "internal/bytealg.IndexByte"], unfollowed := true, recurses := true, named := ["unicode/utf8.first", "unicode/utf8.acceptRanges", "internal/bytealg.MaxLen"], apart := false, laid := [("unicode/utf8.acceptRanges", laid_unicode_utf8_acceptRanges), ("unicode/utf8.first", laid_unicode_utf8_first)], narrowed := true }
def FilesBackUptoSaid : Prop := filesBackUptoRow.holds Tryd.pinned (OpenSpec.upto filesBackSpec)

end Rows
end Go.Proofs.YtdobndclhbkooaaDoor
