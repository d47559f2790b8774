/-
  NARROWER THAN 'FOR EVERY INPUT', by the rows' own cells (each row's printed sentence says how): StyleTable: laid · StyleSheetsRaw: laid · StyleSheetsSpoilt: laid · StyleInherits: laid · StyleOrders: laid · StyleLimits: laid.
  DERIVED. THE GIVEN ROWS OF THIS SEAT. 6 by the template 'for every input the law returns true; each argument reads behind the call as it read before'; 0 by the template 'total and deterministic' (their statements: YtojkihhnioeggaaDoorTotals.lean).
  GIVEN WITH THE SEED: the statements are not yours to turn. If you find one false, say at which input.
  Laid BY PROGRAM, IN A SANDBOX (cutbox-rows.mjs): the forced cells as the released guide's own fill.sh prints them over the translation a14cc3ee9096eb82… (all of the seat's roots in one cut). By AI agents, Wed Nov 11 2026. No macro, syntax, notation, axiom, sorry.
-/
import Derived.Test.YtojkihhnioeggaaDoorChecked
import GoSem.PinnedTables
import GoSem.Claim
import GoSem.ClaimJoined
import GoSem.ClaimMapViews
import Derived.JoinedTies
import Derived.KernelRfl
namespace Go.Proofs.YtojkihhnioeggaaDoor
/- THE CELL 'sum', in the pinned program and in every row, IS THE sha256 OF THE DUMP (.gsa) THAT YtojkihhnioeggaaDoorProg.lean LOADS. Nothing in Lean hashes anything: it is a label: what it is worth is what the hold of that sum in a sandbox is worth. -/
noncomputable def Tryd.pinned : Pinned := { name := "ytojkihhnioeggaadoor", sum := "a14cc3ee9096eb8293d9b2644a5eecd3ff614ae660f7310fea4491e72aed634a", checked := Tryd.checked }
namespace Rows
def none {H : Type} : Left H := { results := [], args := [] }

/- WHAT THE LISTED PACKAGE-LEVEL VARIABLES READ AS WHEN THE CALL BEGINS. Each datum BY PROGRAM (the guide's laid-datum.mjs) off the statement by which the dump's own 'gosem.cut.vars' lays the variable. In a bare row this is a premise. The card (YtojkihhnioeggaaDoorCards.lean) ties it to the program's text. -/
def laid_unicode_utf8_acceptRanges {H : Type} : DataW H := .agg [.agg [.lit (.int .u8 128), .lit (.int .u8 191)], .agg [.lit (.int .u8 160), .lit (.int .u8 191)], .agg [.lit (.int .u8 128), .lit (.int .u8 159)], .agg [.lit (.int .u8 144), .lit (.int .u8 191)], .agg [.lit (.int .u8 128), .lit (.int .u8 143)], .agg [.lit (.int .u8 0), .lit (.int .u8 0)], .agg [.lit (.int .u8 0), .lit (.int .u8 0)], .agg [.lit (.int .u8 0), .lit (.int .u8 0)], .agg [.lit (.int .u8 0), .lit (.int .u8 0)], .agg [.lit (.int .u8 0), .lit (.int .u8 0)], .agg [.lit (.int .u8 0), .lit (.int .u8 0)], .agg [.lit (.int .u8 0), .lit (.int .u8 0)], .agg [.lit (.int .u8 0), .lit (.int .u8 0)], .agg [.lit (.int .u8 0), .lit (.int .u8 0)], .agg [.lit (.int .u8 0), .lit (.int .u8 0)], .agg [.lit (.int .u8 0), .lit (.int .u8 0)]]
def laid_widgetry_style_properties {H : Type} : DataW H := .agg [.agg [.lit (.bool true), .lit (.int .i64 0), .lit (.int .i64 16777215), .lit (.int .i64 0)], .agg [.lit (.bool false), .lit (.int .i64 (-1)), .lit (.int .i64 16777215), .lit (.int .i64 (-1))], .agg [.lit (.bool true), .lit (.int .i64 1), .lit (.int .i64 1000), .lit (.int .i64 16)], .agg [.lit (.bool true), .lit (.int .i64 0), .lit (.int .i64 7), .lit (.int .i64 0)], .agg [.lit (.bool true), .lit (.int .i64 0), .lit (.int .i64 1), .lit (.int .i64 0)], .agg [.lit (.bool false), .lit (.int .i64 0), .lit (.int .i64 4), .lit (.int .i64 1)], .agg [.lit (.bool false), .lit (.int .i64 0), .lit (.int .i64 4), .lit (.int .i64 3)], .agg [.lit (.bool false), .lit (.int .i64 0), .lit (.int .i64 3), .lit (.int .i64 0)], .agg [.lit (.bool true), .lit (.int .i64 0), .lit (.int .i64 2), .lit (.int .i64 0)], .agg [.lit (.bool false), .lit (.int .i64 0), .lit (.int .i64 1048576), .lit (.int .i64 0)], .agg [.lit (.bool false), .lit (.int .i64 0), .lit (.int .i64 1000), .lit (.int .i64 0)], .agg [.lit (.bool false), .lit (.int .i64 0), .lit (.int .i64 1000), .lit (.int .i64 1)], .agg [.lit (.bool false), .lit (.int .i64 (-1)), .lit (.int .i64 1048576), .lit (.int .i64 (-1))], .agg [.lit (.bool false), .lit (.int .i64 0), .lit (.int .i64 1048576), .lit (.int .i64 0)], .agg [.lit (.bool false), .lit (.int .i64 0), .lit (.int .i64 1048576), .lit (.int .i64 1048576)], .agg [.lit (.bool false), .lit (.int .i64 0), .lit (.int .i64 1048576), .lit (.int .i64 0)], .agg [.lit (.bool false), .lit (.int .i64 0), .lit (.int .i64 1048576), .lit (.int .i64 1048576)], .agg [.lit (.bool false), .lit (.int .i64 0), .lit (.int .i64 1048576), .lit (.int .i64 0)], .agg [.lit (.bool false), .lit (.int .i64 0), .lit (.int .i64 1048576), .lit (.int .i64 0)], .agg [.lit (.bool false), .lit (.int .i64 0), .lit (.int .i64 1048576), .lit (.int .i64 0)], .agg [.lit (.bool false), .lit (.int .i64 0), .lit (.int .i64 1048576), .lit (.int .i64 0)], .agg [.lit (.bool true), .lit (.int .i64 0), .lit (.int .i64 1), .lit (.int .i64 0)]]
/-- One of Go's own tables, pinned by name: the form's constant. -/
def laid_unicode_utf8_first : DataW Unit := Go.Pinned.utf8First

/-- 'widgetrylaw17.StyleTable': WHATEVER THE INPUT: true; the input reads as it did. -/
def styleTableSpec : ChangeSpec := { name := "styleTable", fn := fun _ => fun
  | [d1, d2] => { results := [.lit (.bool true)], args := [d1, d2] }
  | _ => none }
def styleTableRow : OpenClaim := { program := "ytojkihhnioeggaadoor", sum := "a14cc3ee9096eb8293d9b2644a5eecd3ff614ae660f7310fea4491e72aed634a", func := "widgetry/widgetrylaw17.StyleTable", spec := "styleTable", unfollowed := true, recurses := true, named := ["widgetry/style.properties", "unicode/utf8.first", "unicode/utf8.acceptRanges"], apart := false, laid := [("unicode/utf8.acceptRanges", laid_unicode_utf8_acceptRanges), ("widgetry/style.properties", laid_widgetry_style_properties), ("unicode/utf8.first", laid_unicode_utf8_first)] }
def StyleTableSaid : Prop := styleTableRow.holds Tryd.pinned (OpenSpec.ofChange styleTableSpec)

/-- ITS FALSE NEIGHBOUR: 'it returns false'. Refute it at one input. -/
def styleTableWrong : ChangeSpec := { name := "styleTable", fn := fun _ => fun
  | [d1, d2] => { results := [.lit (.bool false)], args := [d1, d2] }
  | _ => none }
def StyleTableWrongFalsely : Prop := styleTableRow.holds Tryd.pinned (OpenSpec.ofChange styleTableWrong)

/-- 'widgetrylaw17.StyleSheetsRaw': WHATEVER THE INPUT: true; the input reads as it did. -/
def styleSheetsRawSpec : ChangeSpec := { name := "styleSheetsRaw", fn := fun _ => fun
  | [d] => { results := [.lit (.bool true)], args := [d] }
  | _ => none }
def styleSheetsRawRow : OpenClaim := { program := "ytojkihhnioeggaadoor", sum := "a14cc3ee9096eb8293d9b2644a5eecd3ff614ae660f7310fea4491e72aed634a", func := "widgetry/widgetrylaw17.StyleSheetsRaw", spec := "styleSheetsRaw", unfollowed := true, recurses := true, named := ["widgetry/style.properties", "unicode/utf8.first", "unicode/utf8.acceptRanges"], apart := false, laid := [("unicode/utf8.acceptRanges", laid_unicode_utf8_acceptRanges), ("widgetry/style.properties", laid_widgetry_style_properties), ("unicode/utf8.first", laid_unicode_utf8_first)] }
def StyleSheetsRawSaid : Prop := styleSheetsRawRow.holds Tryd.pinned (OpenSpec.ofChange styleSheetsRawSpec)

/-- ITS FALSE NEIGHBOUR: 'it returns false'. Refute it at one input. -/
def styleSheetsRawWrong : ChangeSpec := { name := "styleSheetsRaw", fn := fun _ => fun
  | [d] => { results := [.lit (.bool false)], args := [d] }
  | _ => none }
def StyleSheetsRawWrongFalsely : Prop := styleSheetsRawRow.holds Tryd.pinned (OpenSpec.ofChange styleSheetsRawWrong)

/-- 'widgetrylaw17.StyleSheetsSpoilt': WHATEVER THE INPUT: true; the input reads as it did. -/
def styleSheetsSpoiltSpec : ChangeSpec := { name := "styleSheetsSpoilt", fn := fun _ => fun
  | [d] => { results := [.lit (.bool true)], args := [d] }
  | _ => none }
def styleSheetsSpoiltRow : OpenClaim := { program := "ytojkihhnioeggaadoor", sum := "a14cc3ee9096eb8293d9b2644a5eecd3ff614ae660f7310fea4491e72aed634a", func := "widgetry/widgetrylaw17.StyleSheetsSpoilt", spec := "styleSheetsSpoilt", unfollowed := true, recurses := true, named := ["widgetry/style.properties", "unicode/utf8.first", "unicode/utf8.acceptRanges"], apart := false, laid := [("unicode/utf8.acceptRanges", laid_unicode_utf8_acceptRanges), ("widgetry/style.properties", laid_widgetry_style_properties), ("unicode/utf8.first", laid_unicode_utf8_first)] }
def StyleSheetsSpoiltSaid : Prop := styleSheetsSpoiltRow.holds Tryd.pinned (OpenSpec.ofChange styleSheetsSpoiltSpec)

/-- ITS FALSE NEIGHBOUR: 'it returns false'. Refute it at one input. -/
def styleSheetsSpoiltWrong : ChangeSpec := { name := "styleSheetsSpoilt", fn := fun _ => fun
  | [d] => { results := [.lit (.bool false)], args := [d] }
  | _ => none }
def StyleSheetsSpoiltWrongFalsely : Prop := styleSheetsSpoiltRow.holds Tryd.pinned (OpenSpec.ofChange styleSheetsSpoiltWrong)

/-- 'widgetrylaw17.StyleInherits': WHATEVER THE INPUT: true; the input reads as it did. -/
def styleInheritsSpec : ChangeSpec := { name := "styleInherits", fn := fun _ => fun
  | [d] => { results := [.lit (.bool true)], args := [d] }
  | _ => none }
def styleInheritsRow : OpenClaim := { program := "ytojkihhnioeggaadoor", sum := "a14cc3ee9096eb8293d9b2644a5eecd3ff614ae660f7310fea4491e72aed634a", func := "widgetry/widgetrylaw17.StyleInherits", spec := "styleInherits", unfollowed := true, recurses := true, named := ["widgetry/style.properties", "unicode/utf8.first", "unicode/utf8.acceptRanges"], apart := false, laid := [("unicode/utf8.acceptRanges", laid_unicode_utf8_acceptRanges), ("widgetry/style.properties", laid_widgetry_style_properties), ("unicode/utf8.first", laid_unicode_utf8_first)] }
def StyleInheritsSaid : Prop := styleInheritsRow.holds Tryd.pinned (OpenSpec.ofChange styleInheritsSpec)

/-- ITS FALSE NEIGHBOUR: 'it returns false'. Refute it at one input. -/
def styleInheritsWrong : ChangeSpec := { name := "styleInherits", fn := fun _ => fun
  | [d] => { results := [.lit (.bool false)], args := [d] }
  | _ => none }
def StyleInheritsWrongFalsely : Prop := styleInheritsRow.holds Tryd.pinned (OpenSpec.ofChange styleInheritsWrong)

/-- 'widgetrylaw17.StyleOrders': WHATEVER THE INPUT: true; the input reads as it did. -/
def styleOrdersSpec : ChangeSpec := { name := "styleOrders", fn := fun _ => fun
  | [d] => { results := [.lit (.bool true)], args := [d] }
  | _ => none }
def styleOrdersRow : OpenClaim := { program := "ytojkihhnioeggaadoor", sum := "a14cc3ee9096eb8293d9b2644a5eecd3ff614ae660f7310fea4491e72aed634a", func := "widgetry/widgetrylaw17.StyleOrders", spec := "styleOrders", unfollowed := true, recurses := true, named := ["widgetry/style.properties", "unicode/utf8.first", "unicode/utf8.acceptRanges"], apart := false, laid := [("unicode/utf8.acceptRanges", laid_unicode_utf8_acceptRanges), ("widgetry/style.properties", laid_widgetry_style_properties), ("unicode/utf8.first", laid_unicode_utf8_first)] }
def StyleOrdersSaid : Prop := styleOrdersRow.holds Tryd.pinned (OpenSpec.ofChange styleOrdersSpec)

/-- ITS FALSE NEIGHBOUR: 'it returns false'. Refute it at one input. -/
def styleOrdersWrong : ChangeSpec := { name := "styleOrders", fn := fun _ => fun
  | [d] => { results := [.lit (.bool false)], args := [d] }
  | _ => none }
def StyleOrdersWrongFalsely : Prop := styleOrdersRow.holds Tryd.pinned (OpenSpec.ofChange styleOrdersWrong)

/-- 'widgetrylaw17.StyleLimits': WHATEVER THE INPUT: true; the input reads as it did. -/
def styleLimitsSpec : ChangeSpec := { name := "styleLimits", fn := fun _ => fun
  | [d] => { results := [.lit (.bool true)], args := [d] }
  | _ => none }
def styleLimitsRow : OpenClaim := { program := "ytojkihhnioeggaadoor", sum := "a14cc3ee9096eb8293d9b2644a5eecd3ff614ae660f7310fea4491e72aed634a", func := "widgetry/widgetrylaw17.StyleLimits", spec := "styleLimits", unfollowed := true, recurses := true, named := ["widgetry/style.properties", "unicode/utf8.first", "unicode/utf8.acceptRanges"], apart := false, laid := [("unicode/utf8.acceptRanges", laid_unicode_utf8_acceptRanges), ("widgetry/style.properties", laid_widgetry_style_properties), ("unicode/utf8.first", laid_unicode_utf8_first)] }
def StyleLimitsSaid : Prop := styleLimitsRow.holds Tryd.pinned (OpenSpec.ofChange styleLimitsSpec)

/-- ITS FALSE NEIGHBOUR: 'it returns false'. Refute it at one input. -/
def styleLimitsWrong : ChangeSpec := { name := "styleLimits", fn := fun _ => fun
  | [d] => { results := [.lit (.bool false)], args := [d] }
  | _ => none }
def StyleLimitsWrongFalsely : Prop := styleLimitsRow.holds Tryd.pinned (OpenSpec.ofChange styleLimitsWrong)

/- THE SECOND FORM. 'bulk': how many values and letters a reading holds, each counted each time it is reached (what is shared counts as often as it is met; a slice's spare places count too). A statement '..UptoSaid' is the law's where the arguments, and the package variables that the reading takes, are together of bulk at most 1048576: NARROWER than '..Said'. Prove '..Said' where nothing that the law and all that it calls make is longer than what came in: it says more and counts as full. Else prove '..UptoSaid'. A law counts once. -/
mutual
def uptoBulk {H : Type} : DataW H → Nat
  | .lit (.string bytes) => bytes.length + 1
  | .lit _ => 1
  | .nil => 1
  | .ptr d => uptoBulk d + 1
  | .slice elems spare => uptoBulkAll elems + uptoBulkAll spare + 1
  | .agg parts => uptoBulkAll parts + 1
  | .iface _ d => uptoBulk d + 1
  | .map entries => uptoBulkEntries entries + 1
  | .held _ => 1
def uptoBulkAll {H : Type} : List (DataW H) → Nat
  | [] => 0
  | d :: r => uptoBulk d + uptoBulkAll r
def uptoBulkEntries {H : Type} : List (Lit × DataW H) → Nat
  | [] => 0
  | x :: r => uptoBulkEntry x + uptoBulkEntries r
def uptoBulkEntry {H : Type} : Lit × DataW H → Nat
  | (.string bytes, d) => bytes.length + uptoBulk d + 1
  | (_, d) => uptoBulk d + 1
 end
def uptoSmall : (H : Type) → List (DataW H) → Bool := fun _ ds => decide (uptoBulkAll ds ≤ 1048576)
def OpenSpec.upto (s : _root_.Go.ChangeSpec) : _root_.Go.OpenSpec := { _root_.Go.OpenSpec.ofChange s with cond := some uptoSmall }

/-- 'widgetrylaw17.StyleTable', WHERE WHAT IT READS IS OF BULK AT MOST 1048576: true; the input reads as it did. -/
def styleTableUptoRow : OpenClaim := { program := "ytojkihhnioeggaadoor", sum := "a14cc3ee9096eb8293d9b2644a5eecd3ff614ae660f7310fea4491e72aed634a", func := "widgetry/widgetrylaw17.StyleTable", spec := "styleTable", unfollowed := true, recurses := true, named := ["widgetry/style.properties", "unicode/utf8.first", "unicode/utf8.acceptRanges"], apart := false, laid := [("unicode/utf8.acceptRanges", laid_unicode_utf8_acceptRanges), ("widgetry/style.properties", laid_widgetry_style_properties), ("unicode/utf8.first", laid_unicode_utf8_first)], narrowed := true }
def StyleTableUptoSaid : Prop := styleTableUptoRow.holds Tryd.pinned (OpenSpec.upto styleTableSpec)

/-- 'widgetrylaw17.StyleSheetsRaw', WHERE WHAT IT READS IS OF BULK AT MOST 1048576: true; the input reads as it did. -/
def styleSheetsRawUptoRow : OpenClaim := { program := "ytojkihhnioeggaadoor", sum := "a14cc3ee9096eb8293d9b2644a5eecd3ff614ae660f7310fea4491e72aed634a", func := "widgetry/widgetrylaw17.StyleSheetsRaw", spec := "styleSheetsRaw", unfollowed := true, recurses := true, named := ["widgetry/style.properties", "unicode/utf8.first", "unicode/utf8.acceptRanges"], apart := false, laid := [("unicode/utf8.acceptRanges", laid_unicode_utf8_acceptRanges), ("widgetry/style.properties", laid_widgetry_style_properties), ("unicode/utf8.first", laid_unicode_utf8_first)], narrowed := true }
def StyleSheetsRawUptoSaid : Prop := styleSheetsRawUptoRow.holds Tryd.pinned (OpenSpec.upto styleSheetsRawSpec)

/-- 'widgetrylaw17.StyleSheetsSpoilt', WHERE WHAT IT READS IS OF BULK AT MOST 1048576: true; the input reads as it did. -/
def styleSheetsSpoiltUptoRow : OpenClaim := { program := "ytojkihhnioeggaadoor", sum := "a14cc3ee9096eb8293d9b2644a5eecd3ff614ae660f7310fea4491e72aed634a", func := "widgetry/widgetrylaw17.StyleSheetsSpoilt", spec := "styleSheetsSpoilt", unfollowed := true, recurses := true, named := ["widgetry/style.properties", "unicode/utf8.first", "unicode/utf8.acceptRanges"], apart := false, laid := [("unicode/utf8.acceptRanges", laid_unicode_utf8_acceptRanges), ("widgetry/style.properties", laid_widgetry_style_properties), ("unicode/utf8.first", laid_unicode_utf8_first)], narrowed := true }
def StyleSheetsSpoiltUptoSaid : Prop := styleSheetsSpoiltUptoRow.holds Tryd.pinned (OpenSpec.upto styleSheetsSpoiltSpec)

/-- 'widgetrylaw17.StyleInherits', WHERE WHAT IT READS IS OF BULK AT MOST 1048576: true; the input reads as it did. -/
def styleInheritsUptoRow : OpenClaim := { program := "ytojkihhnioeggaadoor", sum := "a14cc3ee9096eb8293d9b2644a5eecd3ff614ae660f7310fea4491e72aed634a", func := "widgetry/widgetrylaw17.StyleInherits", spec := "styleInherits", unfollowed := true, recurses := true, named := ["widgetry/style.properties", "unicode/utf8.first", "unicode/utf8.acceptRanges"], apart := false, laid := [("unicode/utf8.acceptRanges", laid_unicode_utf8_acceptRanges), ("widgetry/style.properties", laid_widgetry_style_properties), ("unicode/utf8.first", laid_unicode_utf8_first)], narrowed := true }
def StyleInheritsUptoSaid : Prop := styleInheritsUptoRow.holds Tryd.pinned (OpenSpec.upto styleInheritsSpec)

/-- 'widgetrylaw17.StyleOrders', WHERE WHAT IT READS IS OF BULK AT MOST 1048576: true; the input reads as it did. -/
def styleOrdersUptoRow : OpenClaim := { program := "ytojkihhnioeggaadoor", sum := "a14cc3ee9096eb8293d9b2644a5eecd3ff614ae660f7310fea4491e72aed634a", func := "widgetry/widgetrylaw17.StyleOrders", spec := "styleOrders", unfollowed := true, recurses := true, named := ["widgetry/style.properties", "unicode/utf8.first", "unicode/utf8.acceptRanges"], apart := false, laid := [("unicode/utf8.acceptRanges", laid_unicode_utf8_acceptRanges), ("widgetry/style.properties", laid_widgetry_style_properties), ("unicode/utf8.first", laid_unicode_utf8_first)], narrowed := true }
def StyleOrdersUptoSaid : Prop := styleOrdersUptoRow.holds Tryd.pinned (OpenSpec.upto styleOrdersSpec)

/-- 'widgetrylaw17.StyleLimits', WHERE WHAT IT READS IS OF BULK AT MOST 1048576: true; the input reads as it did. -/
def styleLimitsUptoRow : OpenClaim := { program := "ytojkihhnioeggaadoor", sum := "a14cc3ee9096eb8293d9b2644a5eecd3ff614ae660f7310fea4491e72aed634a", func := "widgetry/widgetrylaw17.StyleLimits", spec := "styleLimits", unfollowed := true, recurses := true, named := ["widgetry/style.properties", "unicode/utf8.first", "unicode/utf8.acceptRanges"], apart := false, laid := [("unicode/utf8.acceptRanges", laid_unicode_utf8_acceptRanges), ("widgetry/style.properties", laid_widgetry_style_properties), ("unicode/utf8.first", laid_unicode_utf8_first)], narrowed := true }
def StyleLimitsUptoSaid : Prop := styleLimitsUptoRow.holds Tryd.pinned (OpenSpec.upto styleLimitsSpec)

end Rows
end Go.Proofs.YtojkihhnioeggaaDoor
