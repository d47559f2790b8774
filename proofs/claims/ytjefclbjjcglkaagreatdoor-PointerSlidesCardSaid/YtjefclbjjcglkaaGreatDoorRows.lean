/-
  NARROWER THAN 'FOR EVERY INPUT', by the rows' own cells (each row's printed sentence says how): PointerModal: laid · PointerSlides: laid · PointerFull: laid.
  DERIVED. THE GIVEN ROWS OF THIS SEAT. 3 by the template 'for every input the law returns true; each argument reads behind the call as it read before'; 0 by the template 'total and deterministic' (their statements: YtjefclbjjcglkaaGreatDoorTotals.lean).
  GIVEN WITH THE SEED: the statements are not yours to turn. If you find one false, say at which input.
  Laid BY PROGRAM, IN A SANDBOX (cutbox-rows.mjs): the forced cells as the released guide's own fill.sh prints them over the translation 17063b0e65ad02aa… (all of the seat's roots in one cut). By AI agents, Wed Nov 11 2026. No macro, syntax, notation, axiom, sorry.
-/
import Derived.Test.YtjefclbjjcglkaaGreatDoorChecked
import GoSem.PinnedTables
import GoSem.Claim
import GoSem.ClaimJoined
import GoSem.ClaimMapViews
import Derived.JoinedTies
import Derived.KernelRfl
namespace Go.Proofs.YtjefclbjjcglkaaGreatDoor
/- THE CELL 'sum', in the pinned program and in every row, IS THE sha256 OF THE DUMP (.gsa) THAT YtjefclbjjcglkaaGreatDoorProg.lean LOADS. Nothing in Lean hashes anything: it is a label: what it is worth is what the hold of that sum in a sandbox is worth. -/
noncomputable def Tryz.pinned : Pinned := { name := "ytjefclbjjcglkaagreatdoor", sum := "17063b0e65ad02aa7ad619d5248aa84fb748147255b75a8f5b5959090b1e8bab", checked := Tryz.checked }
namespace Rows
def none {H : Type} : Left H := { results := [], args := [] }

/- WHAT THE LISTED PACKAGE-LEVEL VARIABLES READ AS WHEN THE CALL BEGINS. Each datum BY PROGRAM (the guide's laid-datum.mjs) off the statement by which the dump's own 'gosem.cut.vars' lays the variable. In a bare row this is a premise. The card (YtjefclbjjcglkaaGreatDoorCards.lean) ties it to the program's text. -/
def laid_unicode_utf8_acceptRanges {H : Type} : DataW H := .agg [.agg [.lit (.int .u8 128), .lit (.int .u8 191)], .agg [.lit (.int .u8 160), .lit (.int .u8 191)], .agg [.lit (.int .u8 128), .lit (.int .u8 159)], .agg [.lit (.int .u8 144), .lit (.int .u8 191)], .agg [.lit (.int .u8 128), .lit (.int .u8 143)], .agg [.lit (.int .u8 0), .lit (.int .u8 0)], .agg [.lit (.int .u8 0), .lit (.int .u8 0)], .agg [.lit (.int .u8 0), .lit (.int .u8 0)], .agg [.lit (.int .u8 0), .lit (.int .u8 0)], .agg [.lit (.int .u8 0), .lit (.int .u8 0)], .agg [.lit (.int .u8 0), .lit (.int .u8 0)], .agg [.lit (.int .u8 0), .lit (.int .u8 0)], .agg [.lit (.int .u8 0), .lit (.int .u8 0)], .agg [.lit (.int .u8 0), .lit (.int .u8 0)], .agg [.lit (.int .u8 0), .lit (.int .u8 0)], .agg [.lit (.int .u8 0), .lit (.int .u8 0)]]
def laid_widgetry_style_properties {H : Type} : DataW H := .agg [.agg [.lit (.bool true), .lit (.int .i64 0), .lit (.int .i64 16777215), .lit (.int .i64 0)], .agg [.lit (.bool false), .lit (.int .i64 (-1)), .lit (.int .i64 16777215), .lit (.int .i64 (-1))], .agg [.lit (.bool true), .lit (.int .i64 1), .lit (.int .i64 1000), .lit (.int .i64 16)], .agg [.lit (.bool true), .lit (.int .i64 0), .lit (.int .i64 7), .lit (.int .i64 0)], .agg [.lit (.bool true), .lit (.int .i64 0), .lit (.int .i64 1), .lit (.int .i64 0)], .agg [.lit (.bool false), .lit (.int .i64 0), .lit (.int .i64 4), .lit (.int .i64 1)], .agg [.lit (.bool false), .lit (.int .i64 0), .lit (.int .i64 4), .lit (.int .i64 3)], .agg [.lit (.bool false), .lit (.int .i64 0), .lit (.int .i64 3), .lit (.int .i64 0)], .agg [.lit (.bool true), .lit (.int .i64 0), .lit (.int .i64 2), .lit (.int .i64 0)], .agg [.lit (.bool false), .lit (.int .i64 0), .lit (.int .i64 1048576), .lit (.int .i64 0)], .agg [.lit (.bool false), .lit (.int .i64 0), .lit (.int .i64 1000), .lit (.int .i64 0)], .agg [.lit (.bool false), .lit (.int .i64 0), .lit (.int .i64 1000), .lit (.int .i64 1)], .agg [.lit (.bool false), .lit (.int .i64 (-1)), .lit (.int .i64 1048576), .lit (.int .i64 (-1))], .agg [.lit (.bool false), .lit (.int .i64 0), .lit (.int .i64 1048576), .lit (.int .i64 0)], .agg [.lit (.bool false), .lit (.int .i64 0), .lit (.int .i64 1048576), .lit (.int .i64 1048576)], .agg [.lit (.bool false), .lit (.int .i64 0), .lit (.int .i64 1048576), .lit (.int .i64 0)], .agg [.lit (.bool false), .lit (.int .i64 0), .lit (.int .i64 1048576), .lit (.int .i64 1048576)], .agg [.lit (.bool false), .lit (.int .i64 0), .lit (.int .i64 1048576), .lit (.int .i64 0)], .agg [.lit (.bool false), .lit (.int .i64 0), .lit (.int .i64 1048576), .lit (.int .i64 0)], .agg [.lit (.bool false), .lit (.int .i64 0), .lit (.int .i64 1048576), .lit (.int .i64 0)], .agg [.lit (.bool false), .lit (.int .i64 0), .lit (.int .i64 1048576), .lit (.int .i64 0)], .agg [.lit (.bool true), .lit (.int .i64 0), .lit (.int .i64 1), .lit (.int .i64 0)]]
/-- One of Go's own tables, pinned by name: the form's constant. -/
def laid_unicode_utf8_first : DataW Unit := Go.Pinned.utf8First

/-- 'widgetrylaw35.PointerModal': WHATEVER THE INPUT: true; the input reads as it did. -/
def pointerModalSpec : ChangeSpec := { name := "pointerModal", fn := fun _ => fun
  | [d1, d2, d3] => { results := [.lit (.bool true)], args := [d1, d2, d3] }
  | _ => none }
def pointerModalRow : OpenClaim := { program := "ytjefclbjjcglkaagreatdoor", sum := "17063b0e65ad02aa7ad619d5248aa84fb748147255b75a8f5b5959090b1e8bab", func := "widgetry/widgetrylaw35.PointerModal", spec := "pointerModal", unfollowed := true, recurses := true, named := ["unicode/utf8.first", "unicode/utf8.acceptRanges", "widgetry/style.properties"], plainKeys := false, apart := false, laid := [("unicode/utf8.acceptRanges", laid_unicode_utf8_acceptRanges), ("widgetry/style.properties", laid_widgetry_style_properties), ("unicode/utf8.first", laid_unicode_utf8_first)] }
def PointerModalSaid : Prop := pointerModalRow.holds Tryz.pinned (OpenSpec.ofChange pointerModalSpec)

/-- ITS FALSE NEIGHBOUR: 'it returns false'. Refute it at one input. -/
def pointerModalWrong : ChangeSpec := { name := "pointerModal", fn := fun _ => fun
  | [d1, d2, d3] => { results := [.lit (.bool false)], args := [d1, d2, d3] }
  | _ => none }
def PointerModalWrongFalsely : Prop := pointerModalRow.holds Tryz.pinned (OpenSpec.ofChange pointerModalWrong)

/-- 'widgetrylaw35.PointerSlides': WHATEVER THE INPUT: true; the input reads as it did. -/
def pointerSlidesSpec : ChangeSpec := { name := "pointerSlides", fn := fun _ => fun
  | [d1, d2, d3] => { results := [.lit (.bool true)], args := [d1, d2, d3] }
  | _ => none }
def pointerSlidesRow : OpenClaim := { program := "ytjefclbjjcglkaagreatdoor", sum := "17063b0e65ad02aa7ad619d5248aa84fb748147255b75a8f5b5959090b1e8bab", func := "widgetry/widgetrylaw35.PointerSlides", spec := "pointerSlides", unfollowed := true, recurses := true, named := ["unicode/utf8.first", "unicode/utf8.acceptRanges", "widgetry/style.properties"], plainKeys := false, apart := false, laid := [("unicode/utf8.acceptRanges", laid_unicode_utf8_acceptRanges), ("widgetry/style.properties", laid_widgetry_style_properties), ("unicode/utf8.first", laid_unicode_utf8_first)] }
def PointerSlidesSaid : Prop := pointerSlidesRow.holds Tryz.pinned (OpenSpec.ofChange pointerSlidesSpec)

/-- ITS FALSE NEIGHBOUR: 'it returns false'. Refute it at one input. -/
def pointerSlidesWrong : ChangeSpec := { name := "pointerSlides", fn := fun _ => fun
  | [d1, d2, d3] => { results := [.lit (.bool false)], args := [d1, d2, d3] }
  | _ => none }
def PointerSlidesWrongFalsely : Prop := pointerSlidesRow.holds Tryz.pinned (OpenSpec.ofChange pointerSlidesWrong)

/-- 'widgetrylaw35.PointerFull': WHATEVER THE INPUT: true; the input reads as it did. -/
def pointerFullSpec : ChangeSpec := { name := "pointerFull", fn := fun _ => fun
  | [d] => { results := [.lit (.bool true)], args := [d] }
  | _ => none }
def pointerFullRow : OpenClaim := { program := "ytjefclbjjcglkaagreatdoor", sum := "17063b0e65ad02aa7ad619d5248aa84fb748147255b75a8f5b5959090b1e8bab", func := "widgetry/widgetrylaw35.PointerFull", spec := "pointerFull", unfollowed := true, recurses := true, named := ["unicode/utf8.first", "unicode/utf8.acceptRanges", "widgetry/style.properties"], plainKeys := false, apart := false, laid := [("unicode/utf8.acceptRanges", laid_unicode_utf8_acceptRanges), ("widgetry/style.properties", laid_widgetry_style_properties), ("unicode/utf8.first", laid_unicode_utf8_first)] }
def PointerFullSaid : Prop := pointerFullRow.holds Tryz.pinned (OpenSpec.ofChange pointerFullSpec)

/-- ITS FALSE NEIGHBOUR: 'it returns false'. Refute it at one input. -/
def pointerFullWrong : ChangeSpec := { name := "pointerFull", fn := fun _ => fun
  | [d] => { results := [.lit (.bool false)], args := [d] }
  | _ => none }
def PointerFullWrongFalsely : Prop := pointerFullRow.holds Tryz.pinned (OpenSpec.ofChange pointerFullWrong)

/- THE SECOND FORM. 'bulk': how many values and letters a reading holds, each counted each time it is reached (what is shared counts as often as it is met; a slice's spare places count too). A statement '..UptoSaid' is the law's where the arguments, and the package variables that the reading takes, are together of bulk at most 1048576: NARROWER than '..Said'. Prove '..Said' where nothing that the law and all that it calls make is longer than what came in: it says more and counts as full. Else prove '..UptoSaid'. A law counts once. -/
mutual
def uptoBulk {H : Type} : DataW H → Nat
  | .lit (.string bytes) => bytes.length + 1
  | .lit _ => 1
  | .nil => 1
  | .ptr d => uptoBulk d + 1
  | .slice elems spare => uptoBulkAll elems + uptoBulkAll spare + 1
  | .agg parts => uptoBulkAll parts + 1
  | .iface _ d => uptoBulk d + 1
  | .map entries => uptoBulkEntries entries + 1
  | .held _ => 1
def uptoBulkAll {H : Type} : List (DataW H) → Nat
  | [] => 0
  | d :: r => uptoBulk d + uptoBulkAll r
def uptoBulkEntries {H : Type} : List (Lit × DataW H) → Nat
  | [] => 0
  | x :: r => uptoBulkEntry x + uptoBulkEntries r
def uptoBulkEntry {H : Type} : Lit × DataW H → Nat
  | (.string bytes, d) => bytes.length + uptoBulk d + 1
  | (_, d) => uptoBulk d + 1
 end
def uptoSmall : (H : Type) → List (DataW H) → Bool := fun _ ds => decide (uptoBulkAll ds ≤ 1048576)
def OpenSpec.upto (s : _root_.Go.ChangeSpec) : _root_.Go.OpenSpec := { _root_.Go.OpenSpec.ofChange s with cond := some uptoSmall }

/-- 'widgetrylaw35.PointerModal', WHERE WHAT IT READS IS OF BULK AT MOST 1048576: true; the input reads as it did. -/
def pointerModalUptoRow : OpenClaim := { program := "ytjefclbjjcglkaagreatdoor", sum := "17063b0e65ad02aa7ad619d5248aa84fb748147255b75a8f5b5959090b1e8bab", func := "widgetry/widgetrylaw35.PointerModal", spec := "pointerModal", unfollowed := true, recurses := true, named := ["unicode/utf8.first", "unicode/utf8.acceptRanges", "widgetry/style.properties"], plainKeys := false, apart := false, laid := [("unicode/utf8.acceptRanges", laid_unicode_utf8_acceptRanges), ("widgetry/style.properties", laid_widgetry_style_properties), ("unicode/utf8.first", laid_unicode_utf8_first)], narrowed := true }
def PointerModalUptoSaid : Prop := pointerModalUptoRow.holds Tryz.pinned (OpenSpec.upto pointerModalSpec)

/-- 'widgetrylaw35.PointerSlides', WHERE WHAT IT READS IS OF BULK AT MOST 1048576: true; the input reads as it did. -/
def pointerSlidesUptoRow : OpenClaim := { program := "ytjefclbjjcglkaagreatdoor", sum := "17063b0e65ad02aa7ad619d5248aa84fb748147255b75a8f5b5959090b1e8bab", func := "widgetry/widgetrylaw35.PointerSlides", spec := "pointerSlides", unfollowed := true, recurses := true, named := ["unicode/utf8.first", "unicode/utf8.acceptRanges", "widgetry/style.properties"], plainKeys := false, apart := false, laid := [("unicode/utf8.acceptRanges", laid_unicode_utf8_acceptRanges), ("widgetry/style.properties", laid_widgetry_style_properties), ("unicode/utf8.first", laid_unicode_utf8_first)], narrowed := true }
def PointerSlidesUptoSaid : Prop := pointerSlidesUptoRow.holds Tryz.pinned (OpenSpec.upto pointerSlidesSpec)

/-- 'widgetrylaw35.PointerFull', WHERE WHAT IT READS IS OF BULK AT MOST 1048576: true; the input reads as it did. -/
def pointerFullUptoRow : OpenClaim := { program := "ytjefclbjjcglkaagreatdoor", sum := "17063b0e65ad02aa7ad619d5248aa84fb748147255b75a8f5b5959090b1e8bab", func := "widgetry/widgetrylaw35.PointerFull", spec := "pointerFull", unfollowed := true, recurses := true, named := ["unicode/utf8.first", "unicode/utf8.acceptRanges", "widgetry/style.properties"], plainKeys := false, apart := false, laid := [("unicode/utf8.acceptRanges", laid_unicode_utf8_acceptRanges), ("widgetry/style.properties", laid_widgetry_style_properties), ("unicode/utf8.first", laid_unicode_utf8_first)], narrowed := true }
def PointerFullUptoSaid : Prop := pointerFullUptoRow.holds Tryz.pinned (OpenSpec.upto pointerFullSpec)

end Rows
end Go.Proofs.YtjefclbjjcglkaaGreatDoor
