/-
  NARROWER THAN 'FOR EVERY INPUT', by the rows' own cells (each row's printed sentence says how): StyleCascades: laid · StyleRanges: laid · StyleMatches: laid · StyleStates: laid · StyleRestyles: laid · StyleUnchanged: laid.
  DERIVED. THE GIVEN ROWS OF THIS SEAT. 6 by the template 'for every input the law returns true; each argument reads behind the call as it read before'; 0 by the template 'total and deterministic' (their statements: YtojkihhnioeggaaGreatDoorTotals.lean).
  GIVEN WITH THE SEED: the statements are not yours to turn. If you find one false, say at which input.
  Laid BY PROGRAM, IN A SANDBOX (cutbox-rows.mjs): the forced cells as the released guide's own fill.sh prints them over the translation c80af826acbd6d36… (all of the seat's roots in one cut). By AI agents, Wed Nov 11 2026. No macro, syntax, notation, axiom, sorry.
-/
import Derived.Test.YtojkihhnioeggaaGreatDoorChecked
import GoSem.PinnedTables
import GoSem.Claim
import GoSem.ClaimJoined
import GoSem.ClaimMapViews
import Derived.JoinedTies
import Derived.KernelRfl
namespace Go.Proofs.YtojkihhnioeggaaGreatDoor
/- THE CELL 'sum', in the pinned program and in every row, IS THE sha256 OF THE DUMP (.gsa) THAT YtojkihhnioeggaaGreatDoorProg.lean LOADS. Nothing in Lean hashes anything: it is a label: what it is worth is what the hold of that sum in a sandbox is worth. -/
noncomputable def Tryz.pinned : Pinned := { name := "ytojkihhnioeggaagreatdoor", sum := "c80af826acbd6d36acc4a22a84dbb6467cda5c8b6f4e0e71ab4cd86081b0d20a", checked := Tryz.checked }
namespace Rows
def none {H : Type} : Left H := { results := [], args := [] }

/- WHAT THE LISTED PACKAGE-LEVEL VARIABLES READ AS WHEN THE CALL BEGINS. Each datum BY PROGRAM (the guide's laid-datum.mjs) off the statement by which the dump's own 'gosem.cut.vars' lays the variable. In a bare row this is a premise. The card (YtojkihhnioeggaaGreatDoorCards.lean) ties it to the program's text. -/
def laid_unicode_utf8_acceptRanges {H : Type} : DataW H := .agg [.agg [.lit (.int .u8 128), .lit (.int .u8 191)], .agg [.lit (.int .u8 160), .lit (.int .u8 191)], .agg [.lit (.int .u8 128), .lit (.int .u8 159)], .agg [.lit (.int .u8 144), .lit (.int .u8 191)], .agg [.lit (.int .u8 128), .lit (.int .u8 143)], .agg [.lit (.int .u8 0), .lit (.int .u8 0)], .agg [.lit (.int .u8 0), .lit (.int .u8 0)], .agg [.lit (.int .u8 0), .lit (.int .u8 0)], .agg [.lit (.int .u8 0), .lit (.int .u8 0)], .agg [.lit (.int .u8 0), .lit (.int .u8 0)], .agg [.lit (.int .u8 0), .lit (.int .u8 0)], .agg [.lit (.int .u8 0), .lit (.int .u8 0)], .agg [.lit (.int .u8 0), .lit (.int .u8 0)], .agg [.lit (.int .u8 0), .lit (.int .u8 0)], .agg [.lit (.int .u8 0), .lit (.int .u8 0)], .agg [.lit (.int .u8 0), .lit (.int .u8 0)]]
def laid_widgetry_style_properties {H : Type} : DataW H := .agg [.agg [.lit (.bool true), .lit (.int .i64 0), .lit (.int .i64 16777215), .lit (.int .i64 0)], .agg [.lit (.bool false), .lit (.int .i64 (-1)), .lit (.int .i64 16777215), .lit (.int .i64 (-1))], .agg [.lit (.bool true), .lit (.int .i64 1), .lit (.int .i64 1000), .lit (.int .i64 16)], .agg [.lit (.bool true), .lit (.int .i64 0), .lit (.int .i64 7), .lit (.int .i64 0)], .agg [.lit (.bool true), .lit (.int .i64 0), .lit (.int .i64 1), .lit (.int .i64 0)], .agg [.lit (.bool false), .lit (.int .i64 0), .lit (.int .i64 4), .lit (.int .i64 1)], .agg [.lit (.bool false), .lit (.int .i64 0), .lit (.int .i64 4), .lit (.int .i64 3)], .agg [.lit (.bool false), .lit (.int .i64 0), .lit (.int .i64 3), .lit (.int .i64 0)], .agg [.lit (.bool true), .lit (.int .i64 0), .lit (.int .i64 2), .lit (.int .i64 0)], .agg [.lit (.bool false), .lit (.int .i64 0), .lit (.int .i64 1048576), .lit (.int .i64 0)], .agg [.lit (.bool false), .lit (.int .i64 0), .lit (.int .i64 1000), .lit (.int .i64 0)], .agg [.lit (.bool false), .lit (.int .i64 0), .lit (.int .i64 1000), .lit (.int .i64 1)], .agg [.lit (.bool false), .lit (.int .i64 (-1)), .lit (.int .i64 1048576), .lit (.int .i64 (-1))], .agg [.lit (.bool false), .lit (.int .i64 0), .lit (.int .i64 1048576), .lit (.int .i64 0)], .agg [.lit (.bool false), .lit (.int .i64 0), .lit (.int .i64 1048576), .lit (.int .i64 1048576)], .agg [.lit (.bool false), .lit (.int .i64 0), .lit (.int .i64 1048576), .lit (.int .i64 0)], .agg [.lit (.bool false), .lit (.int .i64 0), .lit (.int .i64 1048576), .lit (.int .i64 1048576)], .agg [.lit (.bool false), .lit (.int .i64 0), .lit (.int .i64 1048576), .lit (.int .i64 0)], .agg [.lit (.bool false), .lit (.int .i64 0), .lit (.int .i64 1048576), .lit (.int .i64 0)], .agg [.lit (.bool false), .lit (.int .i64 0), .lit (.int .i64 1048576), .lit (.int .i64 0)], .agg [.lit (.bool false), .lit (.int .i64 0), .lit (.int .i64 1048576), .lit (.int .i64 0)], .agg [.lit (.bool true), .lit (.int .i64 0), .lit (.int .i64 1), .lit (.int .i64 0)]]
/-- One of Go's own tables, pinned by name: the form's constant. -/
def laid_unicode_utf8_first : DataW Unit := Go.Pinned.utf8First

/-- 'widgetrylaw17.StyleCascades': WHATEVER THE INPUT: true; the input reads as it did. -/
def styleCascadesSpec : ChangeSpec := { name := "styleCascades", fn := fun _ => fun
  | [d] => { results := [.lit (.bool true)], args := [d] }
  | _ => none }
def styleCascadesRow : OpenClaim := { program := "ytojkihhnioeggaagreatdoor", sum := "c80af826acbd6d36acc4a22a84dbb6467cda5c8b6f4e0e71ab4cd86081b0d20a", func := "widgetry/widgetrylaw17.StyleCascades", spec := "styleCascades", unfollowed := true, recurses := true, named := ["widgetry/style.properties", "unicode/utf8.first", "unicode/utf8.acceptRanges"], apart := false, laid := [("unicode/utf8.acceptRanges", laid_unicode_utf8_acceptRanges), ("widgetry/style.properties", laid_widgetry_style_properties), ("unicode/utf8.first", laid_unicode_utf8_first)] }
def StyleCascadesSaid : Prop := styleCascadesRow.holds Tryz.pinned (OpenSpec.ofChange styleCascadesSpec)

/-- ITS FALSE NEIGHBOUR: 'it returns false'. Refute it at one input. -/
def styleCascadesWrong : ChangeSpec := { name := "styleCascades", fn := fun _ => fun
  | [d] => { results := [.lit (.bool false)], args := [d] }
  | _ => none }
def StyleCascadesWrongFalsely : Prop := styleCascadesRow.holds Tryz.pinned (OpenSpec.ofChange styleCascadesWrong)

/-- 'widgetrylaw17.StyleRanges': WHATEVER THE INPUT: true; the input reads as it did. -/
def styleRangesSpec : ChangeSpec := { name := "styleRanges", fn := fun _ => fun
  | [d] => { results := [.lit (.bool true)], args := [d] }
  | _ => none }
def styleRangesRow : OpenClaim := { program := "ytojkihhnioeggaagreatdoor", sum := "c80af826acbd6d36acc4a22a84dbb6467cda5c8b6f4e0e71ab4cd86081b0d20a", func := "widgetry/widgetrylaw17.StyleRanges", spec := "styleRanges", unfollowed := true, recurses := true, named := ["widgetry/style.properties", "unicode/utf8.first", "unicode/utf8.acceptRanges"], apart := false, laid := [("unicode/utf8.acceptRanges", laid_unicode_utf8_acceptRanges), ("widgetry/style.properties", laid_widgetry_style_properties), ("unicode/utf8.first", laid_unicode_utf8_first)] }
def StyleRangesSaid : Prop := styleRangesRow.holds Tryz.pinned (OpenSpec.ofChange styleRangesSpec)

/-- ITS FALSE NEIGHBOUR: 'it returns false'. Refute it at one input. -/
def styleRangesWrong : ChangeSpec := { name := "styleRanges", fn := fun _ => fun
  | [d] => { results := [.lit (.bool false)], args := [d] }
  | _ => none }
def StyleRangesWrongFalsely : Prop := styleRangesRow.holds Tryz.pinned (OpenSpec.ofChange styleRangesWrong)

/-- 'widgetrylaw17.StyleMatches': WHATEVER THE INPUT: true; the input reads as it did. -/
def styleMatchesSpec : ChangeSpec := { name := "styleMatches", fn := fun _ => fun
  | [d1, d2] => { results := [.lit (.bool true)], args := [d1, d2] }
  | _ => none }
def styleMatchesRow : OpenClaim := { program := "ytojkihhnioeggaagreatdoor", sum := "c80af826acbd6d36acc4a22a84dbb6467cda5c8b6f4e0e71ab4cd86081b0d20a", func := "widgetry/widgetrylaw17.StyleMatches", spec := "styleMatches", unfollowed := true, recurses := true, named := ["unicode/utf8.first", "unicode/utf8.acceptRanges", "widgetry/style.properties"], apart := false, laid := [("unicode/utf8.acceptRanges", laid_unicode_utf8_acceptRanges), ("widgetry/style.properties", laid_widgetry_style_properties), ("unicode/utf8.first", laid_unicode_utf8_first)] }
def StyleMatchesSaid : Prop := styleMatchesRow.holds Tryz.pinned (OpenSpec.ofChange styleMatchesSpec)

/-- ITS FALSE NEIGHBOUR: 'it returns false'. Refute it at one input. -/
def styleMatchesWrong : ChangeSpec := { name := "styleMatches", fn := fun _ => fun
  | [d1, d2] => { results := [.lit (.bool false)], args := [d1, d2] }
  | _ => none }
def StyleMatchesWrongFalsely : Prop := styleMatchesRow.holds Tryz.pinned (OpenSpec.ofChange styleMatchesWrong)

/-- 'widgetrylaw17.StyleStates': WHATEVER THE INPUT: true; the input reads as it did. -/
def styleStatesSpec : ChangeSpec := { name := "styleStates", fn := fun _ => fun
  | [d] => { results := [.lit (.bool true)], args := [d] }
  | _ => none }
def styleStatesRow : OpenClaim := { program := "ytojkihhnioeggaagreatdoor", sum := "c80af826acbd6d36acc4a22a84dbb6467cda5c8b6f4e0e71ab4cd86081b0d20a", func := "widgetry/widgetrylaw17.StyleStates", spec := "styleStates", unfollowed := true, recurses := true, named := ["unicode/utf8.first", "unicode/utf8.acceptRanges", "widgetry/style.properties"], apart := false, laid := [("unicode/utf8.acceptRanges", laid_unicode_utf8_acceptRanges), ("widgetry/style.properties", laid_widgetry_style_properties), ("unicode/utf8.first", laid_unicode_utf8_first)] }
def StyleStatesSaid : Prop := styleStatesRow.holds Tryz.pinned (OpenSpec.ofChange styleStatesSpec)

/-- ITS FALSE NEIGHBOUR: 'it returns false'. Refute it at one input. -/
def styleStatesWrong : ChangeSpec := { name := "styleStates", fn := fun _ => fun
  | [d] => { results := [.lit (.bool false)], args := [d] }
  | _ => none }
def StyleStatesWrongFalsely : Prop := styleStatesRow.holds Tryz.pinned (OpenSpec.ofChange styleStatesWrong)

/-- 'widgetrylaw17.StyleRestyles': WHATEVER THE INPUT: true; the input reads as it did. -/
def styleRestylesSpec : ChangeSpec := { name := "styleRestyles", fn := fun _ => fun
  | [d] => { results := [.lit (.bool true)], args := [d] }
  | _ => none }
def styleRestylesRow : OpenClaim := { program := "ytojkihhnioeggaagreatdoor", sum := "c80af826acbd6d36acc4a22a84dbb6467cda5c8b6f4e0e71ab4cd86081b0d20a", func := "widgetry/widgetrylaw17.StyleRestyles", spec := "styleRestyles", unfollowed := true, recurses := true, named := ["widgetry/style.properties", "unicode/utf8.first", "unicode/utf8.acceptRanges"], apart := false, laid := [("unicode/utf8.acceptRanges", laid_unicode_utf8_acceptRanges), ("widgetry/style.properties", laid_widgetry_style_properties), ("unicode/utf8.first", laid_unicode_utf8_first)] }
def StyleRestylesSaid : Prop := styleRestylesRow.holds Tryz.pinned (OpenSpec.ofChange styleRestylesSpec)

/-- ITS FALSE NEIGHBOUR: 'it returns false'. Refute it at one input. -/
def styleRestylesWrong : ChangeSpec := { name := "styleRestyles", fn := fun _ => fun
  | [d] => { results := [.lit (.bool false)], args := [d] }
  | _ => none }
def StyleRestylesWrongFalsely : Prop := styleRestylesRow.holds Tryz.pinned (OpenSpec.ofChange styleRestylesWrong)

/-- 'widgetrylaw17.StyleUnchanged': WHATEVER THE INPUT: true; the input reads as it did. -/
def styleUnchangedSpec : ChangeSpec := { name := "styleUnchanged", fn := fun _ => fun
  | [d] => { results := [.lit (.bool true)], args := [d] }
  | _ => none }
def styleUnchangedRow : OpenClaim := { program := "ytojkihhnioeggaagreatdoor", sum := "c80af826acbd6d36acc4a22a84dbb6467cda5c8b6f4e0e71ab4cd86081b0d20a", func := "widgetry/widgetrylaw17.StyleUnchanged", spec := "styleUnchanged", unfollowed := true, recurses := true, named := ["widgetry/style.properties", "unicode/utf8.first", "unicode/utf8.acceptRanges"], apart := false, laid := [("unicode/utf8.acceptRanges", laid_unicode_utf8_acceptRanges), ("widgetry/style.properties", laid_widgetry_style_properties), ("unicode/utf8.first", laid_unicode_utf8_first)] }
def StyleUnchangedSaid : Prop := styleUnchangedRow.holds Tryz.pinned (OpenSpec.ofChange styleUnchangedSpec)

/-- ITS FALSE NEIGHBOUR: 'it returns false'. Refute it at one input. -/
def styleUnchangedWrong : ChangeSpec := { name := "styleUnchanged", fn := fun _ => fun
  | [d] => { results := [.lit (.bool false)], args := [d] }
  | _ => none }
def StyleUnchangedWrongFalsely : Prop := styleUnchangedRow.holds Tryz.pinned (OpenSpec.ofChange styleUnchangedWrong)

/- THE SECOND FORM. 'bulk': how many values and letters a reading holds, each counted each time it is reached (what is shared counts as often as it is met; a slice's spare places count too). A statement '..UptoSaid' is the law's where the arguments, and the package variables that the reading takes, are together of bulk at most 1048576: NARROWER than '..Said'. Prove '..Said' where nothing that the law and all that it calls make is longer than what came in: it says more and counts as full. Else prove '..UptoSaid'. A law counts once. -/
mutual
def uptoBulk {H : Type} : DataW H → Nat
  | .lit (.string bytes) => bytes.length + 1
  | .lit _ => 1
  | .nil => 1
  | .ptr d => uptoBulk d + 1
  | .slice elems spare => uptoBulkAll elems + uptoBulkAll spare + 1
  | .agg parts => uptoBulkAll parts + 1
  | .iface _ d => uptoBulk d + 1
  | .map entries => uptoBulkEntries entries + 1
  | .held _ => 1
def uptoBulkAll {H : Type} : List (DataW H) → Nat
  | [] => 0
  | d :: r => uptoBulk d + uptoBulkAll r
def uptoBulkEntries {H : Type} : List (Lit × DataW H) → Nat
  | [] => 0
  | x :: r => uptoBulkEntry x + uptoBulkEntries r
def uptoBulkEntry {H : Type} : Lit × DataW H → Nat
  | (.string bytes, d) => bytes.length + uptoBulk d + 1
  | (_, d) => uptoBulk d + 1
 end
def uptoSmall : (H : Type) → List (DataW H) → Bool := fun _ ds => decide (uptoBulkAll ds ≤ 1048576)
def OpenSpec.upto (s : _root_.Go.ChangeSpec) : _root_.Go.OpenSpec := { _root_.Go.OpenSpec.ofChange s with cond := some uptoSmall }

/-- 'widgetrylaw17.StyleCascades', WHERE WHAT IT READS IS OF BULK AT MOST 1048576: true; the input reads as it did. -/
def styleCascadesUptoRow : OpenClaim := { program := "ytojkihhnioeggaagreatdoor", sum := "c80af826acbd6d36acc4a22a84dbb6467cda5c8b6f4e0e71ab4cd86081b0d20a", func := "widgetry/widgetrylaw17.StyleCascades", spec := "styleCascades", unfollowed := true, recurses := true, named := ["widgetry/style.properties", "unicode/utf8.first", "unicode/utf8.acceptRanges"], apart := false, laid := [("unicode/utf8.acceptRanges", laid_unicode_utf8_acceptRanges), ("widgetry/style.properties", laid_widgetry_style_properties), ("unicode/utf8.first", laid_unicode_utf8_first)], narrowed := true }
def StyleCascadesUptoSaid : Prop := styleCascadesUptoRow.holds Tryz.pinned (OpenSpec.upto styleCascadesSpec)

/-- 'widgetrylaw17.StyleRanges', WHERE WHAT IT READS IS OF BULK AT MOST 1048576: true; the input reads as it did. -/
def styleRangesUptoRow : OpenClaim := { program := "ytojkihhnioeggaagreatdoor", sum := "c80af826acbd6d36acc4a22a84dbb6467cda5c8b6f4e0e71ab4cd86081b0d20a", func := "widgetry/widgetrylaw17.StyleRanges", spec := "styleRanges", unfollowed := true, recurses := true, named := ["widgetry/style.properties", "unicode/utf8.first", "unicode/utf8.acceptRanges"], apart := false, laid := [("unicode/utf8.acceptRanges", laid_unicode_utf8_acceptRanges), ("widgetry/style.properties", laid_widgetry_style_properties), ("unicode/utf8.first", laid_unicode_utf8_first)], narrowed := true }
def StyleRangesUptoSaid : Prop := styleRangesUptoRow.holds Tryz.pinned (OpenSpec.upto styleRangesSpec)

/-- 'widgetrylaw17.StyleMatches', WHERE WHAT IT READS IS OF BULK AT MOST 1048576: true; the input reads as it did. -/
def styleMatchesUptoRow : OpenClaim := { program := "ytojkihhnioeggaagreatdoor", sum := "c80af826acbd6d36acc4a22a84dbb6467cda5c8b6f4e0e71ab4cd86081b0d20a", func := "widgetry/widgetrylaw17.StyleMatches", spec := "styleMatches", unfollowed := true, recurses := true, named := ["unicode/utf8.first", "unicode/utf8.acceptRanges", "widgetry/style.properties"], apart := false, laid := [("unicode/utf8.acceptRanges", laid_unicode_utf8_acceptRanges), ("widgetry/style.properties", laid_widgetry_style_properties), ("unicode/utf8.first", laid_unicode_utf8_first)], narrowed := true }
def StyleMatchesUptoSaid : Prop := styleMatchesUptoRow.holds Tryz.pinned (OpenSpec.upto styleMatchesSpec)

/-- 'widgetrylaw17.StyleStates', WHERE WHAT IT READS IS OF BULK AT MOST 1048576: true; the input reads as it did. -/
def styleStatesUptoRow : OpenClaim := { program := "ytojkihhnioeggaagreatdoor", sum := "c80af826acbd6d36acc4a22a84dbb6467cda5c8b6f4e0e71ab4cd86081b0d20a", func := "widgetry/widgetrylaw17.StyleStates", spec := "styleStates", unfollowed := true, recurses := true, named := ["unicode/utf8.first", "unicode/utf8.acceptRanges", "widgetry/style.properties"], apart := false, laid := [("unicode/utf8.acceptRanges", laid_unicode_utf8_acceptRanges), ("widgetry/style.properties", laid_widgetry_style_properties), ("unicode/utf8.first", laid_unicode_utf8_first)], narrowed := true }
def StyleStatesUptoSaid : Prop := styleStatesUptoRow.holds Tryz.pinned (OpenSpec.upto styleStatesSpec)

/-- 'widgetrylaw17.StyleRestyles', WHERE WHAT IT READS IS OF BULK AT MOST 1048576: true; the input reads as it did. -/
def styleRestylesUptoRow : OpenClaim := { program := "ytojkihhnioeggaagreatdoor", sum := "c80af826acbd6d36acc4a22a84dbb6467cda5c8b6f4e0e71ab4cd86081b0d20a", func := "widgetry/widgetrylaw17.StyleRestyles", spec := "styleRestyles", unfollowed := true, recurses := true, named := ["widgetry/style.properties", "unicode/utf8.first", "unicode/utf8.acceptRanges"], apart := false, laid := [("unicode/utf8.acceptRanges", laid_unicode_utf8_acceptRanges), ("widgetry/style.properties", laid_widgetry_style_properties), ("unicode/utf8.first", laid_unicode_utf8_first)], narrowed := true }
def StyleRestylesUptoSaid : Prop := styleRestylesUptoRow.holds Tryz.pinned (OpenSpec.upto styleRestylesSpec)

/-- 'widgetrylaw17.StyleUnchanged', WHERE WHAT IT READS IS OF BULK AT MOST 1048576: true; the input reads as it did. -/
def styleUnchangedUptoRow : OpenClaim := { program := "ytojkihhnioeggaagreatdoor", sum := "c80af826acbd6d36acc4a22a84dbb6467cda5c8b6f4e0e71ab4cd86081b0d20a", func := "widgetry/widgetrylaw17.StyleUnchanged", spec := "styleUnchanged", unfollowed := true, recurses := true, named := ["widgetry/style.properties", "unicode/utf8.first", "unicode/utf8.acceptRanges"], apart := false, laid := [("unicode/utf8.acceptRanges", laid_unicode_utf8_acceptRanges), ("widgetry/style.properties", laid_widgetry_style_properties), ("unicode/utf8.first", laid_unicode_utf8_first)], narrowed := true }
def StyleUnchangedUptoSaid : Prop := styleUnchangedUptoRow.holds Tryz.pinned (OpenSpec.upto styleUnchangedSpec)

end Rows
end Go.Proofs.YtojkihhnioeggaaGreatDoor
