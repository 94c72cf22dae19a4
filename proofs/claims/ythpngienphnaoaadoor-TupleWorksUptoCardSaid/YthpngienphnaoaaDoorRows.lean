/-
  NARROWER THAN 'FOR EVERY INPUT', by the rows' own cells (each row's printed sentence says how): RunesSplices: laid · RunesAlike: laid · RunesLines: laid · RunesSame: laid · RunesJoined: laid · RunesBack: laid · TupleWorks: laid · TupleOrder: laid · TupleBack: laid · TupleMore: laid · RunesCuts: laid · RunesPlaces: laid.
  DERIVED. THE GIVEN ROWS OF THIS SEAT. 12 by the template 'for every input the law returns true; each argument reads behind the call as it read before'; 0 by the template 'total and deterministic' (their statements: YthpngienphnaoaaDoorTotals.lean).
  GIVEN WITH THE SEED: the statements are not yours to turn. If you find one false, say at which input.
  Laid BY PROGRAM, IN A SANDBOX (cutbox-rows.mjs): the forced cells as the released guide's own fill.sh prints them over the translation ee530ef49ebfbe9a… (all of the seat's roots in one cut). By AI agents, Wed Nov 11 2026. No macro, syntax, notation, axiom, sorry.
-/
import Derived.Test.YthpngienphnaoaaDoorChecked
import GoSem.PinnedTables
import GoSem.Claim
import GoSem.ClaimJoined
import GoSem.ClaimMapViews
import Derived.JoinedTies
import Derived.KernelRfl
namespace Go.Proofs.YthpngienphnaoaaDoor
/- THE CELL 'sum', in the pinned program and in every row, IS THE sha256 OF THE DUMP (.gsa) THAT YthpngienphnaoaaDoorProg.lean LOADS. Nothing in Lean hashes anything: it is a label: what it is worth is what the hold of that sum in a sandbox is worth. -/
noncomputable def Tryd.pinned : Pinned := { name := "ythpngienphnaoaadoor", sum := "ee530ef49ebfbe9a6d08ea95e1875c77ce46fa291edc4f824e171f29bd24134b", checked := Tryd.checked }
namespace Rows
def none {H : Type} : Left H := { results := [], args := [] }

/- WHAT THE LISTED PACKAGE-LEVEL VARIABLES READ AS WHEN THE CALL BEGINS. Each datum BY PROGRAM (the guide's laid-datum.mjs) off the statement by which the dump's own 'gosem.cut.vars' lays the variable. In a bare row this is a premise. The card (YthpngienphnaoaaDoorCards.lean) ties it to the program's text. -/
def laid_unicode_utf8_acceptRanges {H : Type} : DataW H := .agg [.agg [.lit (.int .u8 128), .lit (.int .u8 191)], .agg [.lit (.int .u8 160), .lit (.int .u8 191)], .agg [.lit (.int .u8 128), .lit (.int .u8 159)], .agg [.lit (.int .u8 144), .lit (.int .u8 191)], .agg [.lit (.int .u8 128), .lit (.int .u8 143)], .agg [.lit (.int .u8 0), .lit (.int .u8 0)], .agg [.lit (.int .u8 0), .lit (.int .u8 0)], .agg [.lit (.int .u8 0), .lit (.int .u8 0)], .agg [.lit (.int .u8 0), .lit (.int .u8 0)], .agg [.lit (.int .u8 0), .lit (.int .u8 0)], .agg [.lit (.int .u8 0), .lit (.int .u8 0)], .agg [.lit (.int .u8 0), .lit (.int .u8 0)], .agg [.lit (.int .u8 0), .lit (.int .u8 0)], .agg [.lit (.int .u8 0), .lit (.int .u8 0)], .agg [.lit (.int .u8 0), .lit (.int .u8 0)], .agg [.lit (.int .u8 0), .lit (.int .u8 0)]]
/-- One of Go's own tables, pinned by name: the form's constant. -/
def laid_unicode_utf8_first : DataW Unit := Go.Pinned.utf8First

/-- 'blotterlaw01.RunesSplices': WHATEVER THE INPUT: true; the input reads as it did. -/
def runesSplicesSpec : ChangeSpec := { name := "runesSplices", fn := fun _ => fun
  | [d1, d2, d3, d4] => { results := [.lit (.bool true)], args := [d1, d2, d3, d4] }
  | _ => none }
def runesSplicesRow : OpenClaim := { program := "ythpngienphnaoaadoor", sum := "ee530ef49ebfbe9a6d08ea95e1875c77ce46fa291edc4f824e171f29bd24134b", func := "blotter/blotterlaw01.RunesSplices", spec := "runesSplices", inPlace := ["internal/bytealg.CountString", "internal/bytealg.IndexByteString", "internal/bytealg.IndexString"], unfollowed := true, recurses := true, named := ["unicode/utf8.first", "unicode/utf8.acceptRanges", "internal/bytealg.MaxLen"], apart := false, laid := [("unicode/utf8.acceptRanges", laid_unicode_utf8_acceptRanges), ("unicode/utf8.first", laid_unicode_utf8_first)] }
def RunesSplicesSaid : Prop := runesSplicesRow.holds Tryd.pinned (OpenSpec.ofChange runesSplicesSpec)

/-- ITS FALSE NEIGHBOUR: 'it returns false'. Refute it at one input. -/
def runesSplicesWrong : ChangeSpec := { name := "runesSplices", fn := fun _ => fun
  | [d1, d2, d3, d4] => { results := [.lit (.bool false)], args := [d1, d2, d3, d4] }
  | _ => none }
def RunesSplicesWrongFalsely : Prop := runesSplicesRow.holds Tryd.pinned (OpenSpec.ofChange runesSplicesWrong)

/-- 'blotterlaw01.RunesAlike': WHATEVER THE INPUT: true; the input reads as it did. -/
def runesAlikeSpec : ChangeSpec := { name := "runesAlike", fn := fun _ => fun
  | [d1, d2] => { results := [.lit (.bool true)], args := [d1, d2] }
  | _ => none }
def runesAlikeRow : OpenClaim := { program := "ythpngienphnaoaadoor", sum := "ee530ef49ebfbe9a6d08ea95e1875c77ce46fa291edc4f824e171f29bd24134b", func := "blotter/blotterlaw01.RunesAlike", spec := "runesAlike", inPlace := ["internal/bytealg.CountString", "internal/bytealg.IndexByteString", "internal/bytealg.IndexString"], unfollowed := true, recurses := true, named := ["unicode/utf8.first", "unicode/utf8.acceptRanges", "internal/bytealg.MaxLen"], apart := false, laid := [("unicode/utf8.acceptRanges", laid_unicode_utf8_acceptRanges), ("unicode/utf8.first", laid_unicode_utf8_first)] }
def RunesAlikeSaid : Prop := runesAlikeRow.holds Tryd.pinned (OpenSpec.ofChange runesAlikeSpec)

/-- ITS FALSE NEIGHBOUR: 'it returns false'. Refute it at one input. -/
def runesAlikeWrong : ChangeSpec := { name := "runesAlike", fn := fun _ => fun
  | [d1, d2] => { results := [.lit (.bool false)], args := [d1, d2] }
  | _ => none }
def RunesAlikeWrongFalsely : Prop := runesAlikeRow.holds Tryd.pinned (OpenSpec.ofChange runesAlikeWrong)

/-- 'blotterlaw01.RunesLines': WHATEVER THE INPUT: true; the input reads as it did. -/
def runesLinesSpec : ChangeSpec := { name := "runesLines", fn := fun _ => fun
  | [d] => { results := [.lit (.bool true)], args := [d] }
  | _ => none }
def runesLinesRow : OpenClaim := { program := "ythpngienphnaoaadoor", sum := "ee530ef49ebfbe9a6d08ea95e1875c77ce46fa291edc4f824e171f29bd24134b", func := "blotter/blotterlaw01.RunesLines", spec := "runesLines", inPlace := ["internal/bytealg.CountString", "internal/bytealg.IndexByteString", "internal/bytealg.IndexString"], unfollowed := true, recurses := true, named := ["unicode/utf8.first", "unicode/utf8.acceptRanges", "internal/bytealg.MaxLen"], apart := false, laid := [("unicode/utf8.acceptRanges", laid_unicode_utf8_acceptRanges), ("unicode/utf8.first", laid_unicode_utf8_first)] }
def RunesLinesSaid : Prop := runesLinesRow.holds Tryd.pinned (OpenSpec.ofChange runesLinesSpec)

/-- ITS FALSE NEIGHBOUR: 'it returns false'. Refute it at one input. -/
def runesLinesWrong : ChangeSpec := { name := "runesLines", fn := fun _ => fun
  | [d] => { results := [.lit (.bool false)], args := [d] }
  | _ => none }
def RunesLinesWrongFalsely : Prop := runesLinesRow.holds Tryd.pinned (OpenSpec.ofChange runesLinesWrong)

/-- 'blotterlaw01.RunesSame': WHATEVER THE INPUT: true; the input reads as it did. -/
def runesSameSpec : ChangeSpec := { name := "runesSame", fn := fun _ => fun
  | [d] => { results := [.lit (.bool true)], args := [d] }
  | _ => none }
def runesSameRow : OpenClaim := { program := "ythpngienphnaoaadoor", sum := "ee530ef49ebfbe9a6d08ea95e1875c77ce46fa291edc4f824e171f29bd24134b", func := "blotter/blotterlaw01.RunesSame", spec := "runesSame", inPlace := ["internal/bytealg.CountString", "internal/bytealg.IndexByteString", "internal/bytealg.IndexString"], unfollowed := true, recurses := true, named := ["unicode/utf8.first", "unicode/utf8.acceptRanges", "internal/bytealg.MaxLen"], apart := false, laid := [("unicode/utf8.acceptRanges", laid_unicode_utf8_acceptRanges), ("unicode/utf8.first", laid_unicode_utf8_first)] }
def RunesSameSaid : Prop := runesSameRow.holds Tryd.pinned (OpenSpec.ofChange runesSameSpec)

/-- ITS FALSE NEIGHBOUR: 'it returns false'. Refute it at one input. -/
def runesSameWrong : ChangeSpec := { name := "runesSame", fn := fun _ => fun
  | [d] => { results := [.lit (.bool false)], args := [d] }
  | _ => none }
def RunesSameWrongFalsely : Prop := runesSameRow.holds Tryd.pinned (OpenSpec.ofChange runesSameWrong)

/-- 'blotterlaw01.RunesJoined': WHATEVER THE INPUT: true; the input reads as it did. -/
def runesJoinedSpec : ChangeSpec := { name := "runesJoined", fn := fun _ => fun
  | [d1, d2] => { results := [.lit (.bool true)], args := [d1, d2] }
  | _ => none }
def runesJoinedRow : OpenClaim := { program := "ythpngienphnaoaadoor", sum := "ee530ef49ebfbe9a6d08ea95e1875c77ce46fa291edc4f824e171f29bd24134b", func := "blotter/blotterlaw01.RunesJoined", spec := "runesJoined", inPlace := ["internal/bytealg.CountString", "internal/bytealg.IndexByteString", "internal/bytealg.IndexString"], unfollowed := true, recurses := true, named := ["unicode/utf8.first", "unicode/utf8.acceptRanges", "internal/bytealg.MaxLen"], apart := false, laid := [("unicode/utf8.acceptRanges", laid_unicode_utf8_acceptRanges), ("unicode/utf8.first", laid_unicode_utf8_first)] }
def RunesJoinedSaid : Prop := runesJoinedRow.holds Tryd.pinned (OpenSpec.ofChange runesJoinedSpec)

/-- ITS FALSE NEIGHBOUR: 'it returns false'. Refute it at one input. -/
def runesJoinedWrong : ChangeSpec := { name := "runesJoined", fn := fun _ => fun
  | [d1, d2] => { results := [.lit (.bool false)], args := [d1, d2] }
  | _ => none }
def RunesJoinedWrongFalsely : Prop := runesJoinedRow.holds Tryd.pinned (OpenSpec.ofChange runesJoinedWrong)

/-- 'blotterlaw01.RunesBack': WHATEVER THE INPUT: true; the input reads as it did. -/
def runesBackSpec : ChangeSpec := { name := "runesBack", fn := fun _ => fun
  | [d1, d2, d3] => { results := [.lit (.bool true)], args := [d1, d2, d3] }
  | _ => none }
def runesBackRow : OpenClaim := { program := "ythpngienphnaoaadoor", sum := "ee530ef49ebfbe9a6d08ea95e1875c77ce46fa291edc4f824e171f29bd24134b", func := "blotter/blotterlaw01.RunesBack", spec := "runesBack", inPlace := ["internal/bytealg.CountString", "internal/bytealg.IndexByteString", "internal/bytealg.IndexString"], unfollowed := true, recurses := true, named := ["unicode/utf8.first", "unicode/utf8.acceptRanges", "internal/bytealg.MaxLen"], apart := false, laid := [("unicode/utf8.acceptRanges", laid_unicode_utf8_acceptRanges), ("unicode/utf8.first", laid_unicode_utf8_first)] }
def RunesBackSaid : Prop := runesBackRow.holds Tryd.pinned (OpenSpec.ofChange runesBackSpec)

/-- ITS FALSE NEIGHBOUR: 'it returns false'. Refute it at one input. -/
def runesBackWrong : ChangeSpec := { name := "runesBack", fn := fun _ => fun
  | [d1, d2, d3] => { results := [.lit (.bool false)], args := [d1, d2, d3] }
  | _ => none }
def RunesBackWrongFalsely : Prop := runesBackRow.holds Tryd.pinned (OpenSpec.ofChange runesBackWrong)

/-- 'blotterlaw11.TupleWorks': WHATEVER THE INPUT: true; the input reads as it did. -/
def tupleWorksSpec : ChangeSpec := { name := "tupleWorks", fn := fun _ => fun
  | [d1, d2, d3] => { results := [.lit (.bool true)], args := [d1, d2, d3] }
  | _ => none }
def tupleWorksRow : OpenClaim := { program := "ythpngienphnaoaadoor", sum := "ee530ef49ebfbe9a6d08ea95e1875c77ce46fa291edc4f824e171f29bd24134b", func := "blotter/blotterlaw11.TupleWorks", spec := "tupleWorks", inPlace := ["internal/abi.NoEscape", "internal/bytealg.CountString", "internal/bytealg.IndexByteString", "internal/bytealg.IndexString", "internal/bytealg.MakeNoZero", "internal/bytealg.abigen_runtime_cmpstring"], unfollowed := true, recurses := true, named := ["internal/bytealg.MaxLen", "unicode/utf8.first", "unicode/utf8.acceptRanges"], apart := false, laid := [("unicode/utf8.acceptRanges", laid_unicode_utf8_acceptRanges), ("unicode/utf8.first", laid_unicode_utf8_first)] }
def TupleWorksSaid : Prop := tupleWorksRow.holds Tryd.pinned (OpenSpec.ofChange tupleWorksSpec)

/-- ITS FALSE NEIGHBOUR: 'it returns false'. Refute it at one input. -/
def tupleWorksWrong : ChangeSpec := { name := "tupleWorks", fn := fun _ => fun
  | [d1, d2, d3] => { results := [.lit (.bool false)], args := [d1, d2, d3] }
  | _ => none }
def TupleWorksWrongFalsely : Prop := tupleWorksRow.holds Tryd.pinned (OpenSpec.ofChange tupleWorksWrong)

/-- 'blotterlaw11.TupleOrder': WHATEVER THE INPUT: true; the input reads as it did. -/
def tupleOrderSpec : ChangeSpec := { name := "tupleOrder", fn := fun _ => fun
  | [d1, d2] => { results := [.lit (.bool true)], args := [d1, d2] }
  | _ => none }
def tupleOrderRow : OpenClaim := { program := "ythpngienphnaoaadoor", sum := "ee530ef49ebfbe9a6d08ea95e1875c77ce46fa291edc4f824e171f29bd24134b", func := "blotter/blotterlaw11.TupleOrder", spec := "tupleOrder", inPlace := ["internal/abi.NoEscape", "internal/bytealg.CountString", "internal/bytealg.IndexByteString", "internal/bytealg.IndexString", "internal/bytealg.MakeNoZero", "internal/bytealg.abigen_runtime_cmpstring"], unfollowed := true, recurses := true, named := ["internal/bytealg.MaxLen", "unicode/utf8.first", "unicode/utf8.acceptRanges"], apart := false, laid := [("unicode/utf8.acceptRanges", laid_unicode_utf8_acceptRanges), ("unicode/utf8.first", laid_unicode_utf8_first)] }
def TupleOrderSaid : Prop := tupleOrderRow.holds Tryd.pinned (OpenSpec.ofChange tupleOrderSpec)

/-- ITS FALSE NEIGHBOUR: 'it returns false'. Refute it at one input. -/
def tupleOrderWrong : ChangeSpec := { name := "tupleOrder", fn := fun _ => fun
  | [d1, d2] => { results := [.lit (.bool false)], args := [d1, d2] }
  | _ => none }
def TupleOrderWrongFalsely : Prop := tupleOrderRow.holds Tryd.pinned (OpenSpec.ofChange tupleOrderWrong)

/-- 'blotterlaw11.TupleBack': WHATEVER THE INPUT: true; the input reads as it did. -/
def tupleBackSpec : ChangeSpec := { name := "tupleBack", fn := fun _ => fun
  | [d1, d2] => { results := [.lit (.bool true)], args := [d1, d2] }
  | _ => none }
def tupleBackRow : OpenClaim := { program := "ythpngienphnaoaadoor", sum := "ee530ef49ebfbe9a6d08ea95e1875c77ce46fa291edc4f824e171f29bd24134b", func := "blotter/blotterlaw11.TupleBack", spec := "tupleBack", inPlace := ["internal/abi.NoEscape", "internal/bytealg.CountString", "internal/bytealg.IndexByteString", "internal/bytealg.IndexString", "internal/bytealg.MakeNoZero", "internal/bytealg.abigen_runtime_cmpstring"], unfollowed := true, recurses := true, named := ["internal/bytealg.MaxLen", "unicode/utf8.first", "unicode/utf8.acceptRanges"], apart := false, laid := [("unicode/utf8.acceptRanges", laid_unicode_utf8_acceptRanges), ("unicode/utf8.first", laid_unicode_utf8_first)] }
def TupleBackSaid : Prop := tupleBackRow.holds Tryd.pinned (OpenSpec.ofChange tupleBackSpec)

/-- ITS FALSE NEIGHBOUR: 'it returns false'. Refute it at one input. -/
def tupleBackWrong : ChangeSpec := { name := "tupleBack", fn := fun _ => fun
  | [d1, d2] => { results := [.lit (.bool false)], args := [d1, d2] }
  | _ => none }
def TupleBackWrongFalsely : Prop := tupleBackRow.holds Tryd.pinned (OpenSpec.ofChange tupleBackWrong)

/-- 'blotterlaw11.TupleMore': WHATEVER THE INPUT: true; the input reads as it did. -/
def tupleMoreSpec : ChangeSpec := { name := "tupleMore", fn := fun _ => fun
  | [d1, d2] => { results := [.lit (.bool true)], args := [d1, d2] }
  | _ => none }
def tupleMoreRow : OpenClaim := { program := "ythpngienphnaoaadoor", sum := "ee530ef49ebfbe9a6d08ea95e1875c77ce46fa291edc4f824e171f29bd24134b", func := "blotter/blotterlaw11.TupleMore", spec := "tupleMore", inPlace := ["internal/abi.NoEscape", "internal/bytealg.CountString", "internal/bytealg.IndexByteString", "internal/bytealg.IndexString", "internal/bytealg.MakeNoZero", "internal/bytealg.abigen_runtime_cmpstring"], unfollowed := true, recurses := true, named := ["internal/bytealg.MaxLen", "unicode/utf8.first", "unicode/utf8.acceptRanges"], apart := false, laid := [("unicode/utf8.acceptRanges", laid_unicode_utf8_acceptRanges), ("unicode/utf8.first", laid_unicode_utf8_first)] }
def TupleMoreSaid : Prop := tupleMoreRow.holds Tryd.pinned (OpenSpec.ofChange tupleMoreSpec)

/-- ITS FALSE NEIGHBOUR: 'it returns false'. Refute it at one input. -/
def tupleMoreWrong : ChangeSpec := { name := "tupleMore", fn := fun _ => fun
  | [d1, d2] => { results := [.lit (.bool false)], args := [d1, d2] }
  | _ => none }
def TupleMoreWrongFalsely : Prop := tupleMoreRow.holds Tryd.pinned (OpenSpec.ofChange tupleMoreWrong)

/-- 'blotterlaw01.RunesCuts': WHATEVER THE INPUT: true; the input reads as it did. -/
def runesCutsSpec : ChangeSpec := { name := "runesCuts", fn := fun _ => fun
  | [d1, d2, d3] => { results := [.lit (.bool true)], args := [d1, d2, d3] }
  | _ => none }
def runesCutsRow : OpenClaim := { program := "ythpngienphnaoaadoor", sum := "ee530ef49ebfbe9a6d08ea95e1875c77ce46fa291edc4f824e171f29bd24134b", func := "blotter/blotterlaw01.RunesCuts", spec := "runesCuts", inPlace := ["internal/bytealg.CountString", "internal/bytealg.IndexByteString", "internal/bytealg.IndexString"], unfollowed := true, recurses := true, named := ["unicode/utf8.first", "unicode/utf8.acceptRanges", "internal/bytealg.MaxLen"], apart := false, laid := [("unicode/utf8.acceptRanges", laid_unicode_utf8_acceptRanges), ("unicode/utf8.first", laid_unicode_utf8_first)] }
def RunesCutsSaid : Prop := runesCutsRow.holds Tryd.pinned (OpenSpec.ofChange runesCutsSpec)

/-- ITS FALSE NEIGHBOUR: 'it returns false'. Refute it at one input. -/
def runesCutsWrong : ChangeSpec := { name := "runesCuts", fn := fun _ => fun
  | [d1, d2, d3] => { results := [.lit (.bool false)], args := [d1, d2, d3] }
  | _ => none }
def RunesCutsWrongFalsely : Prop := runesCutsRow.holds Tryd.pinned (OpenSpec.ofChange runesCutsWrong)

/-- 'blotterlaw01.RunesPlaces': WHATEVER THE INPUT: true; the input reads as it did. -/
def runesPlacesSpec : ChangeSpec := { name := "runesPlaces", fn := fun _ => fun
  | [d1, d2, d3] => { results := [.lit (.bool true)], args := [d1, d2, d3] }
  | _ => none }
def runesPlacesRow : OpenClaim := { program := "ythpngienphnaoaadoor", sum := "ee530ef49ebfbe9a6d08ea95e1875c77ce46fa291edc4f824e171f29bd24134b", func := "blotter/blotterlaw01.RunesPlaces", spec := "runesPlaces", inPlace := ["internal/bytealg.CountString", "internal/bytealg.IndexByteString", "internal/bytealg.IndexString"], unfollowed := true, recurses := true, named := ["unicode/utf8.first", "unicode/utf8.acceptRanges", "internal/bytealg.MaxLen"], apart := false, laid := [("unicode/utf8.acceptRanges", laid_unicode_utf8_acceptRanges), ("unicode/utf8.first", laid_unicode_utf8_first)] }
def RunesPlacesSaid : Prop := runesPlacesRow.holds Tryd.pinned (OpenSpec.ofChange runesPlacesSpec)

/-- ITS FALSE NEIGHBOUR: 'it returns false'. Refute it at one input. -/
def runesPlacesWrong : ChangeSpec := { name := "runesPlaces", fn := fun _ => fun
  | [d1, d2, d3] => { results := [.lit (.bool false)], args := [d1, d2, d3] }
  | _ => none }
def RunesPlacesWrongFalsely : Prop := runesPlacesRow.holds Tryd.pinned (OpenSpec.ofChange runesPlacesWrong)

/- THE SECOND FORM. 'bulk': how many values and letters a reading holds, each counted each time it is reached (what is shared counts as often as it is met; a slice's spare places count too). A statement '..UptoSaid' is the law's where the arguments, and the package variables that the reading takes, are together of bulk at most 1048576: NARROWER than '..Said'. Prove '..Said' where nothing that the law and all that it calls make is longer than what came in: it says more and counts as full. Else prove '..UptoSaid'. A law counts once. -/
mutual
def uptoBulk {H : Type} : DataW H → Nat
  | .lit (.string bytes) => bytes.length + 1
  | .lit _ => 1
  | .nil => 1
  | .ptr d => uptoBulk d + 1
  | .slice elems spare => uptoBulkAll elems + uptoBulkAll spare + 1
  | .agg parts => uptoBulkAll parts + 1
  | .iface _ d => uptoBulk d + 1
  | .map entries => uptoBulkEntries entries + 1
  | .held _ => 1
def uptoBulkAll {H : Type} : List (DataW H) → Nat
  | [] => 0
  | d :: r => uptoBulk d + uptoBulkAll r
def uptoBulkEntries {H : Type} : List (Lit × DataW H) → Nat
  | [] => 0
  | x :: r => uptoBulkEntry x + uptoBulkEntries r
def uptoBulkEntry {H : Type} : Lit × DataW H → Nat
  | (.string bytes, d) => bytes.length + uptoBulk d + 1
  | (_, d) => uptoBulk d + 1
 end
def uptoSmall : (H : Type) → List (DataW H) → Bool := fun _ ds => decide (uptoBulkAll ds ≤ 1048576)
def OpenSpec.upto (s : _root_.Go.ChangeSpec) : _root_.Go.OpenSpec := { _root_.Go.OpenSpec.ofChange s with cond := some uptoSmall }

/-- 'blotterlaw01.RunesSplices', WHERE WHAT IT READS IS OF BULK AT MOST 1048576: true; the input reads as it did. -/
def runesSplicesUptoRow : OpenClaim := { program := "ythpngienphnaoaadoor", sum := "ee530ef49ebfbe9a6d08ea95e1875c77ce46fa291edc4f824e171f29bd24134b", func := "blotter/blotterlaw01.RunesSplices", spec := "runesSplices", inPlace := ["internal/bytealg.CountString", "internal/bytealg.IndexByteString", "internal/bytealg.IndexString"], unfollowed := true, recurses := true, named := ["unicode/utf8.first", "unicode/utf8.acceptRanges", "internal/bytealg.MaxLen"], apart := false, laid := [("unicode/utf8.acceptRanges", laid_unicode_utf8_acceptRanges), ("unicode/utf8.first", laid_unicode_utf8_first)], narrowed := true }
def RunesSplicesUptoSaid : Prop := runesSplicesUptoRow.holds Tryd.pinned (OpenSpec.upto runesSplicesSpec)

/-- 'blotterlaw01.RunesAlike', WHERE WHAT IT READS IS OF BULK AT MOST 1048576: true; the input reads as it did. -/
def runesAlikeUptoRow : OpenClaim := { program := "ythpngienphnaoaadoor", sum := "ee530ef49ebfbe9a6d08ea95e1875c77ce46fa291edc4f824e171f29bd24134b", func := "blotter/blotterlaw01.RunesAlike", spec := "runesAlike", inPlace := ["internal/bytealg.CountString", "internal/bytealg.IndexByteString", "internal/bytealg.IndexString"], unfollowed := true, recurses := true, named := ["unicode/utf8.first", "unicode/utf8.acceptRanges", "internal/bytealg.MaxLen"], apart := false, laid := [("unicode/utf8.acceptRanges", laid_unicode_utf8_acceptRanges), ("unicode/utf8.first", laid_unicode_utf8_first)], narrowed := true }
def RunesAlikeUptoSaid : Prop := runesAlikeUptoRow.holds Tryd.pinned (OpenSpec.upto runesAlikeSpec)

/-- 'blotterlaw01.RunesLines', WHERE WHAT IT READS IS OF BULK AT MOST 1048576: true; the input reads as it did. -/
def runesLinesUptoRow : OpenClaim := { program := "ythpngienphnaoaadoor", sum := "ee530ef49ebfbe9a6d08ea95e1875c77ce46fa291edc4f824e171f29bd24134b", func := "blotter/blotterlaw01.RunesLines", spec := "runesLines", inPlace := ["internal/bytealg.CountString", "internal/bytealg.IndexByteString", "internal/bytealg.IndexString"], unfollowed := true, recurses := true, named := ["unicode/utf8.first", "unicode/utf8.acceptRanges", "internal/bytealg.MaxLen"], apart := false, laid := [("unicode/utf8.acceptRanges", laid_unicode_utf8_acceptRanges), ("unicode/utf8.first", laid_unicode_utf8_first)], narrowed := true }
def RunesLinesUptoSaid : Prop := runesLinesUptoRow.holds Tryd.pinned (OpenSpec.upto runesLinesSpec)

/-- 'blotterlaw01.RunesSame', WHERE WHAT IT READS IS OF BULK AT MOST 1048576: true; the input reads as it did. -/
def runesSameUptoRow : OpenClaim := { program := "ythpngienphnaoaadoor", sum := "ee530ef49ebfbe9a6d08ea95e1875c77ce46fa291edc4f824e171f29bd24134b", func := "blotter/blotterlaw01.RunesSame", spec := "runesSame", inPlace := ["internal/bytealg.CountString", "internal/bytealg.IndexByteString", "internal/bytealg.IndexString"], unfollowed := true, recurses := true, named := ["unicode/utf8.first", "unicode/utf8.acceptRanges", "internal/bytealg.MaxLen"], apart := false, laid := [("unicode/utf8.acceptRanges", laid_unicode_utf8_acceptRanges), ("unicode/utf8.first", laid_unicode_utf8_first)], narrowed := true }
def RunesSameUptoSaid : Prop := runesSameUptoRow.holds Tryd.pinned (OpenSpec.upto runesSameSpec)

/-- 'blotterlaw01.RunesJoined', WHERE WHAT IT READS IS OF BULK AT MOST 1048576: true; the input reads as it did. -/
def runesJoinedUptoRow : OpenClaim := { program := "ythpngienphnaoaadoor", sum := "ee530ef49ebfbe9a6d08ea95e1875c77ce46fa291edc4f824e171f29bd24134b", func := "blotter/blotterlaw01.RunesJoined", spec := "runesJoined", inPlace := ["internal/bytealg.CountString", "internal/bytealg.IndexByteString", "internal/bytealg.IndexString"], unfollowed := true, recurses := true, named := ["unicode/utf8.first", "unicode/utf8.acceptRanges", "internal/bytealg.MaxLen"], apart := false, laid := [("unicode/utf8.acceptRanges", laid_unicode_utf8_acceptRanges), ("unicode/utf8.first", laid_unicode_utf8_first)], narrowed := true }
def RunesJoinedUptoSaid : Prop := runesJoinedUptoRow.holds Tryd.pinned (OpenSpec.upto runesJoinedSpec)

/-- 'blotterlaw01.RunesBack', WHERE WHAT IT READS IS OF BULK AT MOST 1048576: true; the input reads as it did. -/
def runesBackUptoRow : OpenClaim := { program := "ythpngienphnaoaadoor", sum := "ee530ef49ebfbe9a6d08ea95e1875c77ce46fa291edc4f824e171f29bd24134b", func := "blotter/blotterlaw01.RunesBack", spec := "runesBack", inPlace := ["internal/bytealg.CountString", "internal/bytealg.IndexByteString", "internal/bytealg.IndexString"], unfollowed := true, recurses := true, named := ["unicode/utf8.first", "unicode/utf8.acceptRanges", "internal/bytealg.MaxLen"], apart := false, laid := [("unicode/utf8.acceptRanges", laid_unicode_utf8_acceptRanges), ("unicode/utf8.first", laid_unicode_utf8_first)], narrowed := true }
def RunesBackUptoSaid : Prop := runesBackUptoRow.holds Tryd.pinned (OpenSpec.upto runesBackSpec)

/-- 'blotterlaw11.TupleWorks', WHERE WHAT IT READS IS OF BULK AT MOST 1048576: true; the input reads as it did. -/
def tupleWorksUptoRow : OpenClaim := { program := "ythpngienphnaoaadoor", sum := "ee530ef49ebfbe9a6d08ea95e1875c77ce46fa291edc4f824e171f29bd24134b", func := "blotter/blotterlaw11.TupleWorks", spec := "tupleWorks", inPlace := ["internal/abi.NoEscape", "internal/bytealg.CountString", "internal/bytealg.IndexByteString", "internal/bytealg.IndexString", "internal/bytealg.MakeNoZero", "internal/bytealg.abigen_runtime_cmpstring"], unfollowed := true, recurses := true, named := ["internal/bytealg.MaxLen", "unicode/utf8.first", "unicode/utf8.acceptRanges"], apart := false, laid := [("unicode/utf8.acceptRanges", laid_unicode_utf8_acceptRanges), ("unicode/utf8.first", laid_unicode_utf8_first)], narrowed := true }
def TupleWorksUptoSaid : Prop := tupleWorksUptoRow.holds Tryd.pinned (OpenSpec.upto tupleWorksSpec)

/-- 'blotterlaw11.TupleOrder', WHERE WHAT IT READS IS OF BULK AT MOST 1048576: true; the input reads as it did. -/
def tupleOrderUptoRow : OpenClaim := { program := "ythpngienphnaoaadoor", sum := "ee530ef49ebfbe9a6d08ea95e1875c77ce46fa291edc4f824e171f29bd24134b", func := "blotter/blotterlaw11.TupleOrder", spec := "tupleOrder", inPlace := ["internal/abi.NoEscape", "internal/bytealg.CountString", "internal/bytealg.IndexByteString", "internal/bytealg.IndexString", "internal/bytealg.MakeNoZero", "internal/bytealg.abigen_runtime_cmpstring"], unfollowed := true, recurses := true, named := ["internal/bytealg.MaxLen", "unicode/utf8.first", "unicode/utf8.acceptRanges"], apart := false, laid := [("unicode/utf8.acceptRanges", laid_unicode_utf8_acceptRanges), ("unicode/utf8.first", laid_unicode_utf8_first)], narrowed := true }
def TupleOrderUptoSaid : Prop := tupleOrderUptoRow.holds Tryd.pinned (OpenSpec.upto tupleOrderSpec)

/-- 'blotterlaw11.TupleBack', WHERE WHAT IT READS IS OF BULK AT MOST 1048576: true; the input reads as it did. -/
def tupleBackUptoRow : OpenClaim := { program := "ythpngienphnaoaadoor", sum := "ee530ef49ebfbe9a6d08ea95e1875c77ce46fa291edc4f824e171f29bd24134b", func := "blotter/blotterlaw11.TupleBack", spec := "tupleBack", inPlace := ["internal/abi.NoEscape", "internal/bytealg.CountString", "internal/bytealg.IndexByteString", "internal/bytealg.IndexString", "internal/bytealg.MakeNoZero", "internal/bytealg.abigen_runtime_cmpstring"], unfollowed := true, recurses := true, named := ["internal/bytealg.MaxLen", "unicode/utf8.first", "unicode/utf8.acceptRanges"], apart := false, laid := [("unicode/utf8.acceptRanges", laid_unicode_utf8_acceptRanges), ("unicode/utf8.first", laid_unicode_utf8_first)], narrowed := true }
def TupleBackUptoSaid : Prop := tupleBackUptoRow.holds Tryd.pinned (OpenSpec.upto tupleBackSpec)

/-- 'blotterlaw11.TupleMore', WHERE WHAT IT READS IS OF BULK AT MOST 1048576: true; the input reads as it did. -/
def tupleMoreUptoRow : OpenClaim := { program := "ythpngienphnaoaadoor", sum := "ee530ef49ebfbe9a6d08ea95e1875c77ce46fa291edc4f824e171f29bd24134b", func := "blotter/blotterlaw11.TupleMore", spec := "tupleMore", inPlace := ["internal/abi.NoEscape", "internal/bytealg.CountString", "internal/bytealg.IndexByteString", "internal/bytealg.IndexString", "internal/bytealg.MakeNoZero", "internal/bytealg.abigen_runtime_cmpstring"], unfollowed := true, recurses := true, named := ["internal/bytealg.MaxLen", "unicode/utf8.first", "unicode/utf8.acceptRanges"], apart := false, laid := [("unicode/utf8.acceptRanges", laid_unicode_utf8_acceptRanges), ("unicode/utf8.first", laid_unicode_utf8_first)], narrowed := true }
def TupleMoreUptoSaid : Prop := tupleMoreUptoRow.holds Tryd.pinned (OpenSpec.upto tupleMoreSpec)

/-- 'blotterlaw01.RunesCuts', WHERE WHAT IT READS IS OF BULK AT MOST 1048576: true; the input reads as it did. -/
def runesCutsUptoRow : OpenClaim := { program := "ythpngienphnaoaadoor", sum := "ee530ef49ebfbe9a6d08ea95e1875c77ce46fa291edc4f824e171f29bd24134b", func := "blotter/blotterlaw01.RunesCuts", spec := "runesCuts", inPlace := ["internal/bytealg.CountString", "internal/bytealg.IndexByteString", "internal/bytealg.IndexString"], unfollowed := true, recurses := true, named := ["unicode/utf8.first", "unicode/utf8.acceptRanges", "internal/bytealg.MaxLen"], apart := false, laid := [("unicode/utf8.acceptRanges", laid_unicode_utf8_acceptRanges), ("unicode/utf8.first", laid_unicode_utf8_first)], narrowed := true }
def RunesCutsUptoSaid : Prop := runesCutsUptoRow.holds Tryd.pinned (OpenSpec.upto runesCutsSpec)

/-- 'blotterlaw01.RunesPlaces', WHERE WHAT IT READS IS OF BULK AT MOST 1048576: true; the input reads as it did. -/
def runesPlacesUptoRow : OpenClaim := { program := "ythpngienphnaoaadoor", sum := "ee530ef49ebfbe9a6d08ea95e1875c77ce46fa291edc4f824e171f29bd24134b", func := "blotter/blotterlaw01.RunesPlaces", spec := "runesPlaces", inPlace := ["internal/bytealg.CountString", "internal/bytealg.IndexByteString", "internal/bytealg.IndexString"], unfollowed := true, recurses := true, named := ["unicode/utf8.first", "unicode/utf8.acceptRanges", "internal/bytealg.MaxLen"], apart := false, laid := [("unicode/utf8.acceptRanges", laid_unicode_utf8_acceptRanges), ("unicode/utf8.first", laid_unicode_utf8_first)], narrowed := true }
def RunesPlacesUptoSaid : Prop := runesPlacesUptoRow.holds Tryd.pinned (OpenSpec.upto runesPlacesSpec)

end Rows
end Go.Proofs.YthpngienphnaoaaDoor
