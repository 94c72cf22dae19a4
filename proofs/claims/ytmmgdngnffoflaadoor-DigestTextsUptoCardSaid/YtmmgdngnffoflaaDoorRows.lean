/-
  NARROWER THAN 'FOR EVERY INPUT', by the rows' own cells (each row's printed sentence says how): DigestTexts: laid · DigestBack: laid · DigestForms: laid · TopWire: laid · DigestWorks: laid · WsxMasks: laid · WsxEnds: laid · WsxPieces: laid · WsxBack: laid · WsxShakes: laid.
  DERIVED. THE GIVEN ROWS OF THIS SEAT. 10 by the template 'for every input the law returns true; each argument reads behind the call as it read before'; 0 by the template 'total and deterministic' (their statements: YtmmgdngnffoflaaDoorTotals.lean).
  GIVEN WITH THE SEED: the statements are not yours to turn. If you find one false, say at which input.
  Laid BY PROGRAM, IN A SANDBOX (cutbox-rows.mjs): the forced cells as the released guide's own fill.sh prints them over the translation 082e592af075e538… (all of the seat's roots in one cut). By AI agents, Wed Nov 11 2026. No macro, syntax, notation, axiom, sorry.
-/
import Derived.Test.YtmmgdngnffoflaaDoorChecked
import GoSem.PinnedTables
import GoSem.Claim
import GoSem.ClaimJoined
import GoSem.ClaimMapViews
import Derived.JoinedTies
import Derived.KernelRfl
namespace Go.Proofs.YtmmgdngnffoflaaDoor
/- THE CELL 'sum', in the pinned program and in every row, IS THE sha256 OF THE DUMP (.gsa) THAT YtmmgdngnffoflaaDoorProg.lean LOADS. Nothing in Lean hashes anything: it is a label: what it is worth is what the hold of that sum in a sandbox is worth. -/
noncomputable def Tryd.pinned : Pinned := { name := "ytmmgdngnffoflaadoor", sum := "082e592af075e538489d0e9a670ba56453364152a845772a4bc9b86ad82c2160", checked := Tryd.checked }
namespace Rows
def none {H : Type} : Left H := { results := [], args := [] }

/- WHAT THE LISTED PACKAGE-LEVEL VARIABLES READ AS WHEN THE CALL BEGINS. Each datum BY PROGRAM (the guide's laid-datum.mjs) off the statement by which the dump's own 'gosem.cut.vars' lays the variable. In a bare row this is a premise. The card (YtmmgdngnffoflaaDoorCards.lean) ties it to the program's text. -/
def laid_unicode_utf8_acceptRanges {H : Type} : DataW H := .agg [.agg [.lit (.int .u8 128), .lit (.int .u8 191)], .agg [.lit (.int .u8 160), .lit (.int .u8 191)], .agg [.lit (.int .u8 128), .lit (.int .u8 159)], .agg [.lit (.int .u8 144), .lit (.int .u8 191)], .agg [.lit (.int .u8 128), .lit (.int .u8 143)], .agg [.lit (.int .u8 0), .lit (.int .u8 0)], .agg [.lit (.int .u8 0), .lit (.int .u8 0)], .agg [.lit (.int .u8 0), .lit (.int .u8 0)], .agg [.lit (.int .u8 0), .lit (.int .u8 0)], .agg [.lit (.int .u8 0), .lit (.int .u8 0)], .agg [.lit (.int .u8 0), .lit (.int .u8 0)], .agg [.lit (.int .u8 0), .lit (.int .u8 0)], .agg [.lit (.int .u8 0), .lit (.int .u8 0)], .agg [.lit (.int .u8 0), .lit (.int .u8 0)], .agg [.lit (.int .u8 0), .lit (.int .u8 0)], .agg [.lit (.int .u8 0), .lit (.int .u8 0)]]
/-- One of Go's own tables, pinned by name: the form's constant. -/
def laid_unicode_utf8_first : DataW Unit := Go.Pinned.utf8First

/-- 'blotterlaw10.DigestTexts': WHATEVER THE INPUT: true; the input reads as it did. -/
def digestTextsSpec : ChangeSpec := { name := "digestTexts", fn := fun _ => fun
  | [d1, d2] => { results := [.lit (.bool true)], args := [d1, d2] }
  | _ => none }
def digestTextsRow : OpenClaim := { program := "ytmmgdngnffoflaadoor", sum := "082e592af075e538489d0e9a670ba56453364152a845772a4bc9b86ad82c2160", func := "blotter/blotterlaw10.DigestTexts", spec := "digestTexts", inPlace := ["internal/bytealg.IndexByteString", "internal/bytealg.IndexString", "internal/abi.NoEscape"], named := ["unicode/utf8.first", "unicode/utf8.acceptRanges", "internal/bytealg.MaxLen"], apart := false, laid := [("unicode/utf8.acceptRanges", laid_unicode_utf8_acceptRanges), ("unicode/utf8.first", laid_unicode_utf8_first)] }
def DigestTextsSaid : Prop := digestTextsRow.holds Tryd.pinned (OpenSpec.ofChange digestTextsSpec)

/-- ITS FALSE NEIGHBOUR: 'it returns false'. Refute it at one input. -/
def digestTextsWrong : ChangeSpec := { name := "digestTexts", fn := fun _ => fun
  | [d1, d2] => { results := [.lit (.bool false)], args := [d1, d2] }
  | _ => none }
def DigestTextsWrongFalsely : Prop := digestTextsRow.holds Tryd.pinned (OpenSpec.ofChange digestTextsWrong)

/-- 'blotterlaw10.DigestBack': WHATEVER THE INPUT: true; the input reads as it did. -/
def digestBackSpec : ChangeSpec := { name := "digestBack", fn := fun _ => fun
  | [d1, d2] => { results := [.lit (.bool true)], args := [d1, d2] }
  | _ => none }
def digestBackRow : OpenClaim := { program := "ytmmgdngnffoflaadoor", sum := "082e592af075e538489d0e9a670ba56453364152a845772a4bc9b86ad82c2160", func := "blotter/blotterlaw10.DigestBack", spec := "digestBack", inPlace := ["internal/bytealg.IndexByteString", "internal/bytealg.IndexString", "internal/abi.NoEscape"], named := ["unicode/utf8.first", "unicode/utf8.acceptRanges", "internal/bytealg.MaxLen"], apart := false, laid := [("unicode/utf8.acceptRanges", laid_unicode_utf8_acceptRanges), ("unicode/utf8.first", laid_unicode_utf8_first)] }
def DigestBackSaid : Prop := digestBackRow.holds Tryd.pinned (OpenSpec.ofChange digestBackSpec)

/-- ITS FALSE NEIGHBOUR: 'it returns false'. Refute it at one input. -/
def digestBackWrong : ChangeSpec := { name := "digestBack", fn := fun _ => fun
  | [d1, d2] => { results := [.lit (.bool false)], args := [d1, d2] }
  | _ => none }
def DigestBackWrongFalsely : Prop := digestBackRow.holds Tryd.pinned (OpenSpec.ofChange digestBackWrong)

/-- 'blotterlaw10.DigestForms': WHATEVER THE INPUT: true; the input reads as it did. -/
def digestFormsSpec : ChangeSpec := { name := "digestForms", fn := fun _ => fun
  | [d1, d2] => { results := [.lit (.bool true)], args := [d1, d2] }
  | _ => none }
def digestFormsRow : OpenClaim := { program := "ytmmgdngnffoflaadoor", sum := "082e592af075e538489d0e9a670ba56453364152a845772a4bc9b86ad82c2160", func := "blotter/blotterlaw10.DigestForms", spec := "digestForms", inPlace := ["internal/bytealg.IndexByteString", "internal/bytealg.IndexString", "internal/abi.NoEscape"], named := ["unicode/utf8.first", "unicode/utf8.acceptRanges", "internal/bytealg.MaxLen"], apart := false, laid := [("unicode/utf8.acceptRanges", laid_unicode_utf8_acceptRanges), ("unicode/utf8.first", laid_unicode_utf8_first)] }
def DigestFormsSaid : Prop := digestFormsRow.holds Tryd.pinned (OpenSpec.ofChange digestFormsSpec)

/-- ITS FALSE NEIGHBOUR: 'it returns false'. Refute it at one input. -/
def digestFormsWrong : ChangeSpec := { name := "digestForms", fn := fun _ => fun
  | [d1, d2] => { results := [.lit (.bool false)], args := [d1, d2] }
  | _ => none }
def DigestFormsWrongFalsely : Prop := digestFormsRow.holds Tryd.pinned (OpenSpec.ofChange digestFormsWrong)

/-- 'blottertop.TopWire': WHATEVER THE INPUT: true; the input reads as it did. -/
def topWireSpec : ChangeSpec := { name := "topWire", fn := fun _ => fun
  | [d1, d2, d3, d4] => { results := [.lit (.bool true)], args := [d1, d2, d3, d4] }
  | _ => none }
def topWireRow : OpenClaim := { program := "ytmmgdngnffoflaadoor", sum := "082e592af075e538489d0e9a670ba56453364152a845772a4bc9b86ad82c2160", func := "blotter/blottertop.TopWire", spec := "topWire", inPlace := ["internal/abi.NoEscape", "internal/bytealg.IndexByteString"], unfollowed := true, recurses := true, named := ["unicode/utf8.first", "unicode/utf8.acceptRanges"], apart := false, laid := [("unicode/utf8.acceptRanges", laid_unicode_utf8_acceptRanges), ("unicode/utf8.first", laid_unicode_utf8_first)] }
def TopWireSaid : Prop := topWireRow.holds Tryd.pinned (OpenSpec.ofChange topWireSpec)

/-- ITS FALSE NEIGHBOUR: 'it returns false'. Refute it at one input. -/
def topWireWrong : ChangeSpec := { name := "topWire", fn := fun _ => fun
  | [d1, d2, d3, d4] => { results := [.lit (.bool false)], args := [d1, d2, d3, d4] }
  | _ => none }
def TopWireWrongFalsely : Prop := topWireRow.holds Tryd.pinned (OpenSpec.ofChange topWireWrong)

/-- 'blotterlaw10.DigestWorks': WHATEVER THE INPUT: true; the input reads as it did. -/
def digestWorksSpec : ChangeSpec := { name := "digestWorks", fn := fun _ => fun
  | [d1, d2, d3] => { results := [.lit (.bool true)], args := [d1, d2, d3] }
  | _ => none }
def digestWorksRow : OpenClaim := { program := "ytmmgdngnffoflaadoor", sum := "082e592af075e538489d0e9a670ba56453364152a845772a4bc9b86ad82c2160", func := "blotter/blotterlaw10.DigestWorks", spec := "digestWorks", inPlace := ["internal/bytealg.IndexByteString", "internal/bytealg.IndexString", "internal/abi.NoEscape"], named := ["unicode/utf8.first", "unicode/utf8.acceptRanges", "internal/bytealg.MaxLen"], apart := false, laid := [("unicode/utf8.acceptRanges", laid_unicode_utf8_acceptRanges), ("unicode/utf8.first", laid_unicode_utf8_first)] }
def DigestWorksSaid : Prop := digestWorksRow.holds Tryd.pinned (OpenSpec.ofChange digestWorksSpec)

/-- ITS FALSE NEIGHBOUR: 'it returns false'. Refute it at one input. -/
def digestWorksWrong : ChangeSpec := { name := "digestWorks", fn := fun _ => fun
  | [d1, d2, d3] => { results := [.lit (.bool false)], args := [d1, d2, d3] }
  | _ => none }
def DigestWorksWrongFalsely : Prop := digestWorksRow.holds Tryd.pinned (OpenSpec.ofChange digestWorksWrong)

/-- 'blotterlaw21.WsxMasks': WHATEVER THE INPUT: true; the input reads as it did. -/
def wsxMasksSpec : ChangeSpec := { name := "wsxMasks", fn := fun _ => fun
  | [d1, d2, d3] => { results := [.lit (.bool true)], args := [d1, d2, d3] }
  | _ => none }
def wsxMasksRow : OpenClaim := { program := "ytmmgdngnffoflaadoor", sum := "082e592af075e538489d0e9a670ba56453364152a845772a4bc9b86ad82c2160", func := "blotter/blotterlaw21.WsxMasks", spec := "wsxMasks", inPlace := ["internal/bytealg.IndexByteString", "internal/bytealg.IndexString", "internal/abi.NoEscape"], named := ["unicode/utf8.first", "unicode/utf8.acceptRanges", "internal/bytealg.MaxLen"], apart := false, laid := [("unicode/utf8.acceptRanges", laid_unicode_utf8_acceptRanges), ("unicode/utf8.first", laid_unicode_utf8_first)] }
def WsxMasksSaid : Prop := wsxMasksRow.holds Tryd.pinned (OpenSpec.ofChange wsxMasksSpec)

/-- ITS FALSE NEIGHBOUR: 'it returns false'. Refute it at one input. -/
def wsxMasksWrong : ChangeSpec := { name := "wsxMasks", fn := fun _ => fun
  | [d1, d2, d3] => { results := [.lit (.bool false)], args := [d1, d2, d3] }
  | _ => none }
def WsxMasksWrongFalsely : Prop := wsxMasksRow.holds Tryd.pinned (OpenSpec.ofChange wsxMasksWrong)

/-- 'blotterlaw21.WsxEnds': WHATEVER THE INPUT: true; the input reads as it did. -/
def wsxEndsSpec : ChangeSpec := { name := "wsxEnds", fn := fun _ => fun
  | [d1, d2] => { results := [.lit (.bool true)], args := [d1, d2] }
  | _ => none }
def wsxEndsRow : OpenClaim := { program := "ytmmgdngnffoflaadoor", sum := "082e592af075e538489d0e9a670ba56453364152a845772a4bc9b86ad82c2160", func := "blotter/blotterlaw21.WsxEnds", spec := "wsxEnds", inPlace := ["internal/bytealg.IndexByteString", "internal/bytealg.IndexString", "internal/abi.NoEscape"], named := ["unicode/utf8.first", "unicode/utf8.acceptRanges", "internal/bytealg.MaxLen"], apart := false, laid := [("unicode/utf8.acceptRanges", laid_unicode_utf8_acceptRanges), ("unicode/utf8.first", laid_unicode_utf8_first)] }
def WsxEndsSaid : Prop := wsxEndsRow.holds Tryd.pinned (OpenSpec.ofChange wsxEndsSpec)

/-- ITS FALSE NEIGHBOUR: 'it returns false'. Refute it at one input. -/
def wsxEndsWrong : ChangeSpec := { name := "wsxEnds", fn := fun _ => fun
  | [d1, d2] => { results := [.lit (.bool false)], args := [d1, d2] }
  | _ => none }
def WsxEndsWrongFalsely : Prop := wsxEndsRow.holds Tryd.pinned (OpenSpec.ofChange wsxEndsWrong)

/-- 'blotterlaw21.WsxPieces': WHATEVER THE INPUT: true; the input reads as it did. -/
def wsxPiecesSpec : ChangeSpec := { name := "wsxPieces", fn := fun _ => fun
  | [d1, d2, d3] => { results := [.lit (.bool true)], args := [d1, d2, d3] }
  | _ => none }
def wsxPiecesRow : OpenClaim := { program := "ytmmgdngnffoflaadoor", sum := "082e592af075e538489d0e9a670ba56453364152a845772a4bc9b86ad82c2160", func := "blotter/blotterlaw21.WsxPieces", spec := "wsxPieces", inPlace := ["internal/bytealg.IndexByteString", "internal/bytealg.IndexString", "internal/abi.NoEscape"], named := ["unicode/utf8.first", "unicode/utf8.acceptRanges", "internal/bytealg.MaxLen"], apart := false, laid := [("unicode/utf8.acceptRanges", laid_unicode_utf8_acceptRanges), ("unicode/utf8.first", laid_unicode_utf8_first)] }
def WsxPiecesSaid : Prop := wsxPiecesRow.holds Tryd.pinned (OpenSpec.ofChange wsxPiecesSpec)

/-- ITS FALSE NEIGHBOUR: 'it returns false'. Refute it at one input. -/
def wsxPiecesWrong : ChangeSpec := { name := "wsxPieces", fn := fun _ => fun
  | [d1, d2, d3] => { results := [.lit (.bool false)], args := [d1, d2, d3] }
  | _ => none }
def WsxPiecesWrongFalsely : Prop := wsxPiecesRow.holds Tryd.pinned (OpenSpec.ofChange wsxPiecesWrong)

/-- 'blotterlaw21.WsxBack': WHATEVER THE INPUT: true; the input reads as it did. -/
def wsxBackSpec : ChangeSpec := { name := "wsxBack", fn := fun _ => fun
  | [d1, d2, d3, d4] => { results := [.lit (.bool true)], args := [d1, d2, d3, d4] }
  | _ => none }
def wsxBackRow : OpenClaim := { program := "ytmmgdngnffoflaadoor", sum := "082e592af075e538489d0e9a670ba56453364152a845772a4bc9b86ad82c2160", func := "blotter/blotterlaw21.WsxBack", spec := "wsxBack", inPlace := ["internal/bytealg.IndexByteString", "internal/bytealg.IndexString", "internal/abi.NoEscape"], named := ["unicode/utf8.first", "unicode/utf8.acceptRanges", "internal/bytealg.MaxLen"], apart := false, laid := [("unicode/utf8.acceptRanges", laid_unicode_utf8_acceptRanges), ("unicode/utf8.first", laid_unicode_utf8_first)] }
def WsxBackSaid : Prop := wsxBackRow.holds Tryd.pinned (OpenSpec.ofChange wsxBackSpec)

/-- ITS FALSE NEIGHBOUR: 'it returns false'. Refute it at one input. -/
def wsxBackWrong : ChangeSpec := { name := "wsxBack", fn := fun _ => fun
  | [d1, d2, d3, d4] => { results := [.lit (.bool false)], args := [d1, d2, d3, d4] }
  | _ => none }
def WsxBackWrongFalsely : Prop := wsxBackRow.holds Tryd.pinned (OpenSpec.ofChange wsxBackWrong)

/-- 'blotterlaw21.WsxShakes': WHATEVER THE INPUT: true; the input reads as it did. -/
def wsxShakesSpec : ChangeSpec := { name := "wsxShakes", fn := fun _ => fun
  | [d1, d2] => { results := [.lit (.bool true)], args := [d1, d2] }
  | _ => none }
def wsxShakesRow : OpenClaim := { program := "ytmmgdngnffoflaadoor", sum := "082e592af075e538489d0e9a670ba56453364152a845772a4bc9b86ad82c2160", func := "blotter/blotterlaw21.WsxShakes", spec := "wsxShakes", inPlace := ["internal/bytealg.IndexByteString", "internal/bytealg.IndexString", "internal/abi.NoEscape", "internal/bytealg.MakeNoZero"], unfollowed := true, recurses := true, named := ["unicode/utf8.first", "unicode/utf8.acceptRanges", "internal/bytealg.MaxLen"], apart := false, laid := [("unicode/utf8.acceptRanges", laid_unicode_utf8_acceptRanges), ("unicode/utf8.first", laid_unicode_utf8_first)] }
def WsxShakesSaid : Prop := wsxShakesRow.holds Tryd.pinned (OpenSpec.ofChange wsxShakesSpec)

/-- ITS FALSE NEIGHBOUR: 'it returns false'. Refute it at one input. -/
def wsxShakesWrong : ChangeSpec := { name := "wsxShakes", fn := fun _ => fun
  | [d1, d2] => { results := [.lit (.bool false)], args := [d1, d2] }
  | _ => none }
def WsxShakesWrongFalsely : Prop := wsxShakesRow.holds Tryd.pinned (OpenSpec.ofChange wsxShakesWrong)

/- THE SECOND FORM. 'bulk': how many values and letters a reading holds, each counted each time it is reached (what is shared counts as often as it is met; a slice's spare places count too). A statement '..UptoSaid' is the law's where the arguments, and the package variables that the reading takes, are together of bulk at most 1048576: NARROWER than '..Said'. Prove '..Said' where nothing that the law and all that it calls make is longer than what came in: it says more and counts as full. Else prove '..UptoSaid'. A law counts once. -/
mutual
def uptoBulk {H : Type} : DataW H → Nat
  | .lit (.string bytes) => bytes.length + 1
  | .lit _ => 1
  | .nil => 1
  | .ptr d => uptoBulk d + 1
  | .slice elems spare => uptoBulkAll elems + uptoBulkAll spare + 1
  | .agg parts => uptoBulkAll parts + 1
  | .iface _ d => uptoBulk d + 1
  | .map entries => uptoBulkEntries entries + 1
  | .held _ => 1
def uptoBulkAll {H : Type} : List (DataW H) → Nat
  | [] => 0
  | d :: r => uptoBulk d + uptoBulkAll r
def uptoBulkEntries {H : Type} : List (Lit × DataW H) → Nat
  | [] => 0
  | x :: r => uptoBulkEntry x + uptoBulkEntries r
def uptoBulkEntry {H : Type} : Lit × DataW H → Nat
  | (.string bytes, d) => bytes.length + uptoBulk d + 1
  | (_, d) => uptoBulk d + 1
 end
def uptoSmall : (H : Type) → List (DataW H) → Bool := fun _ ds => decide (uptoBulkAll ds ≤ 1048576)
def OpenSpec.upto (s : _root_.Go.ChangeSpec) : _root_.Go.OpenSpec := { _root_.Go.OpenSpec.ofChange s with cond := some uptoSmall }

/-- 'blotterlaw10.DigestTexts', WHERE WHAT IT READS IS OF BULK AT MOST 1048576: true; the input reads as it did. -/
def digestTextsUptoRow : OpenClaim := { program := "ytmmgdngnffoflaadoor", sum := "082e592af075e538489d0e9a670ba56453364152a845772a4bc9b86ad82c2160", func := "blotter/blotterlaw10.DigestTexts", spec := "digestTexts", inPlace := ["internal/bytealg.IndexByteString", "internal/bytealg.IndexString", "internal/abi.NoEscape"], named := ["unicode/utf8.first", "unicode/utf8.acceptRanges", "internal/bytealg.MaxLen"], apart := false, laid := [("unicode/utf8.acceptRanges", laid_unicode_utf8_acceptRanges), ("unicode/utf8.first", laid_unicode_utf8_first)], narrowed := true }
def DigestTextsUptoSaid : Prop := digestTextsUptoRow.holds Tryd.pinned (OpenSpec.upto digestTextsSpec)

/-- 'blotterlaw10.DigestBack', WHERE WHAT IT READS IS OF BULK AT MOST 1048576: true; the input reads as it did. -/
def digestBackUptoRow : OpenClaim := { program := "ytmmgdngnffoflaadoor", sum := "082e592af075e538489d0e9a670ba56453364152a845772a4bc9b86ad82c2160", func := "blotter/blotterlaw10.DigestBack", spec := "digestBack", inPlace := ["internal/bytealg.IndexByteString", "internal/bytealg.IndexString", "internal/abi.NoEscape"], named := ["unicode/utf8.first", "unicode/utf8.acceptRanges", "internal/bytealg.MaxLen"], apart := false, laid := [("unicode/utf8.acceptRanges", laid_unicode_utf8_acceptRanges), ("unicode/utf8.first", laid_unicode_utf8_first)], narrowed := true }
def DigestBackUptoSaid : Prop := digestBackUptoRow.holds Tryd.pinned (OpenSpec.upto digestBackSpec)

/-- 'blotterlaw10.DigestForms', WHERE WHAT IT READS IS OF BULK AT MOST 1048576: true; the input reads as it did. -/
def digestFormsUptoRow : OpenClaim := { program := "ytmmgdngnffoflaadoor", sum := "082e592af075e538489d0e9a670ba56453364152a845772a4bc9b86ad82c2160", func := "blotter/blotterlaw10.DigestForms", spec := "digestForms", inPlace := ["internal/bytealg.IndexByteString", "internal/bytealg.IndexString", "internal/abi.NoEscape"], named := ["unicode/utf8.first", "unicode/utf8.acceptRanges", "internal/bytealg.MaxLen"], apart := false, laid := [("unicode/utf8.acceptRanges", laid_unicode_utf8_acceptRanges), ("unicode/utf8.first", laid_unicode_utf8_first)], narrowed := true }
def DigestFormsUptoSaid : Prop := digestFormsUptoRow.holds Tryd.pinned (OpenSpec.upto digestFormsSpec)

/-- 'blottertop.TopWire', WHERE WHAT IT READS IS OF BULK AT MOST 1048576: true; the input reads as it did. -/
def topWireUptoRow : OpenClaim := { program := "ytmmgdngnffoflaadoor", sum := "082e592af075e538489d0e9a670ba56453364152a845772a4bc9b86ad82c2160", func := "blotter/blottertop.TopWire", spec := "topWire", inPlace := ["internal/abi.NoEscape", "internal/bytealg.IndexByteString"], unfollowed := true, recurses := true, named := ["unicode/utf8.first", "unicode/utf8.acceptRanges"], apart := false, laid := [("unicode/utf8.acceptRanges", laid_unicode_utf8_acceptRanges), ("unicode/utf8.first", laid_unicode_utf8_first)], narrowed := true }
def TopWireUptoSaid : Prop := topWireUptoRow.holds Tryd.pinned (OpenSpec.upto topWireSpec)

/-- 'blotterlaw10.DigestWorks', WHERE WHAT IT READS IS OF BULK AT MOST 1048576: true; the input reads as it did. -/
def digestWorksUptoRow : OpenClaim := { program := "ytmmgdngnffoflaadoor", sum := "082e592af075e538489d0e9a670ba56453364152a845772a4bc9b86ad82c2160", func := "blotter/blotterlaw10.DigestWorks", spec := "digestWorks", inPlace := ["internal/bytealg.IndexByteString", "internal/bytealg.IndexString", "internal/abi.NoEscape"], named := ["unicode/utf8.first", "unicode/utf8.acceptRanges", "internal/bytealg.MaxLen"], apart := false, laid := [("unicode/utf8.acceptRanges", laid_unicode_utf8_acceptRanges), ("unicode/utf8.first", laid_unicode_utf8_first)], narrowed := true }
def DigestWorksUptoSaid : Prop := digestWorksUptoRow.holds Tryd.pinned (OpenSpec.upto digestWorksSpec)

/-- 'blotterlaw21.WsxMasks', WHERE WHAT IT READS IS OF BULK AT MOST 1048576: true; the input reads as it did. -/
def wsxMasksUptoRow : OpenClaim := { program := "ytmmgdngnffoflaadoor", sum := "082e592af075e538489d0e9a670ba56453364152a845772a4bc9b86ad82c2160", func := "blotter/blotterlaw21.WsxMasks", spec := "wsxMasks", inPlace := ["internal/bytealg.IndexByteString", "internal/bytealg.IndexString", "internal/abi.NoEscape"], named := ["unicode/utf8.first", "unicode/utf8.acceptRanges", "internal/bytealg.MaxLen"], apart := false, laid := [("unicode/utf8.acceptRanges", laid_unicode_utf8_acceptRanges), ("unicode/utf8.first", laid_unicode_utf8_first)], narrowed := true }
def WsxMasksUptoSaid : Prop := wsxMasksUptoRow.holds Tryd.pinned (OpenSpec.upto wsxMasksSpec)

/-- 'blotterlaw21.WsxEnds', WHERE WHAT IT READS IS OF BULK AT MOST 1048576: true; the input reads as it did. -/
def wsxEndsUptoRow : OpenClaim := { program := "ytmmgdngnffoflaadoor", sum := "082e592af075e538489d0e9a670ba56453364152a845772a4bc9b86ad82c2160", func := "blotter/blotterlaw21.WsxEnds", spec := "wsxEnds", inPlace := ["internal/bytealg.IndexByteString", "internal/bytealg.IndexString", "internal/abi.NoEscape"], named := ["unicode/utf8.first", "unicode/utf8.acceptRanges", "internal/bytealg.MaxLen"], apart := false, laid := [("unicode/utf8.acceptRanges", laid_unicode_utf8_acceptRanges), ("unicode/utf8.first", laid_unicode_utf8_first)], narrowed := true }
def WsxEndsUptoSaid : Prop := wsxEndsUptoRow.holds Tryd.pinned (OpenSpec.upto wsxEndsSpec)

/-- 'blotterlaw21.WsxPieces', WHERE WHAT IT READS IS OF BULK AT MOST 1048576: true; the input reads as it did. -/
def wsxPiecesUptoRow : OpenClaim := { program := "ytmmgdngnffoflaadoor", sum := "082e592af075e538489d0e9a670ba56453364152a845772a4bc9b86ad82c2160", func := "blotter/blotterlaw21.WsxPieces", spec := "wsxPieces", inPlace := ["internal/bytealg.IndexByteString", "internal/bytealg.IndexString", "internal/abi.NoEscape"], named := ["unicode/utf8.first", "unicode/utf8.acceptRanges", "internal/bytealg.MaxLen"], apart := false, laid := [("unicode/utf8.acceptRanges", laid_unicode_utf8_acceptRanges), ("unicode/utf8.first", laid_unicode_utf8_first)], narrowed := true }
def WsxPiecesUptoSaid : Prop := wsxPiecesUptoRow.holds Tryd.pinned (OpenSpec.upto wsxPiecesSpec)

/-- 'blotterlaw21.WsxBack', WHERE WHAT IT READS IS OF BULK AT MOST 1048576: true; the input reads as it did. -/
def wsxBackUptoRow : OpenClaim := { program := "ytmmgdngnffoflaadoor", sum := "082e592af075e538489d0e9a670ba56453364152a845772a4bc9b86ad82c2160", func := "blotter/blotterlaw21.WsxBack", spec := "wsxBack", inPlace := ["internal/bytealg.IndexByteString", "internal/bytealg.IndexString", "internal/abi.NoEscape"], named := ["unicode/utf8.first", "unicode/utf8.acceptRanges", "internal/bytealg.MaxLen"], apart := false, laid := [("unicode/utf8.acceptRanges", laid_unicode_utf8_acceptRanges), ("unicode/utf8.first", laid_unicode_utf8_first)], narrowed := true }
def WsxBackUptoSaid : Prop := wsxBackUptoRow.holds Tryd.pinned (OpenSpec.upto wsxBackSpec)

/-- 'blotterlaw21.WsxShakes', WHERE WHAT IT READS IS OF BULK AT MOST 1048576: true; the input reads as it did. -/
def wsxShakesUptoRow : OpenClaim := { program := "ytmmgdngnffoflaadoor", sum := "082e592af075e538489d0e9a670ba56453364152a845772a4bc9b86ad82c2160", func := "blotter/blotterlaw21.WsxShakes", spec := "wsxShakes", inPlace := ["internal/bytealg.IndexByteString", "internal/bytealg.IndexString", "internal/abi.NoEscape", "internal/bytealg.MakeNoZero"], unfollowed := true, recurses := true, named := ["unicode/utf8.first", "unicode/utf8.acceptRanges", "internal/bytealg.MaxLen"], apart := false, laid := [("unicode/utf8.acceptRanges", laid_unicode_utf8_acceptRanges), ("unicode/utf8.first", laid_unicode_utf8_first)], narrowed := true }
def WsxShakesUptoSaid : Prop := wsxShakesUptoRow.holds Tryd.pinned (OpenSpec.upto wsxShakesSpec)

end Rows
end Go.Proofs.YtmmgdngnffoflaaDoor
