/-
  DERIVED. GIVEN WITH THE SEED: THE CARDS: each row of YtojkihhnioeggaaDoorRows.lean that lists a variable, with what it lists TIED to the program's text (the seventh form; the later family's looks); each row that meets fmt, with fmt's text TOLD by the authors' own Lean function (tested against real Go, not proved from fmt's source: count such statements apart). THE CARD IS WHAT COUNTS. Prove the row's statement (the work); the ties are given (YtojkihhnioeggaaDoorTie.lean); close each card by the builder's one call (the guide's Derived/Test/ToyasCard.lean, 'card_holds'). Laid BY PROGRAM, IN A SANDBOX (cutbox-door.mjs). By AI agents, Wed Nov 11 2026. No macro, syntax, notation, axiom, sorry.
-/
import Derived.Test.YtojkihhnioeggaaDoorRows
import GoSem.ClaimSeven
namespace Go.Proofs.YtojkihhnioeggaaDoor
namespace Rows

/-- THE TIED CARD OF 'widgetrylaw17.StyleTable'. -/
def styleTableCard : Claim7 := { stood := { row := styleTableRow, standIns := [], harness := (true, "ce31de6f2331eb01e61e01a45ab2401c7a234ef344cf5ac9b745038ff8eb78e1"), looks := false }, kinds := [], alts := [], laidByText := true, laidKinds := [.data, .data, .pinned], laidTests := true, laidLooks := .later }
def StyleTableCardSaid : Prop := Claim7.holds Tryd.pinned (.plain (OpenSpec.ofChange styleTableSpec)) styleTableCard

/-- THE TIED CARD OF 'widgetrylaw17.StyleSheetsRaw'. -/
def styleSheetsRawCard : Claim7 := { stood := { row := styleSheetsRawRow, standIns := [], harness := (true, "ce31de6f2331eb01e61e01a45ab2401c7a234ef344cf5ac9b745038ff8eb78e1"), looks := false }, kinds := [], alts := [], laidByText := true, laidKinds := [.data, .data, .pinned], laidTests := true, laidLooks := .later }
def StyleSheetsRawCardSaid : Prop := Claim7.holds Tryd.pinned (.plain (OpenSpec.ofChange styleSheetsRawSpec)) styleSheetsRawCard

/-- THE TIED CARD OF 'widgetrylaw17.StyleSheetsSpoilt'. -/
def styleSheetsSpoiltCard : Claim7 := { stood := { row := styleSheetsSpoiltRow, standIns := [], harness := (true, "ce31de6f2331eb01e61e01a45ab2401c7a234ef344cf5ac9b745038ff8eb78e1"), looks := false }, kinds := [], alts := [], laidByText := true, laidKinds := [.data, .data, .pinned], laidTests := true, laidLooks := .later }
def StyleSheetsSpoiltCardSaid : Prop := Claim7.holds Tryd.pinned (.plain (OpenSpec.ofChange styleSheetsSpoiltSpec)) styleSheetsSpoiltCard

/-- THE TIED CARD OF 'widgetrylaw17.StyleInherits'. -/
def styleInheritsCard : Claim7 := { stood := { row := styleInheritsRow, standIns := [], harness := (true, "ce31de6f2331eb01e61e01a45ab2401c7a234ef344cf5ac9b745038ff8eb78e1"), looks := false }, kinds := [], alts := [], laidByText := true, laidKinds := [.data, .data, .pinned], laidTests := true, laidLooks := .later }
def StyleInheritsCardSaid : Prop := Claim7.holds Tryd.pinned (.plain (OpenSpec.ofChange styleInheritsSpec)) styleInheritsCard

/-- THE TIED CARD OF 'widgetrylaw17.StyleOrders'. -/
def styleOrdersCard : Claim7 := { stood := { row := styleOrdersRow, standIns := [], harness := (true, "ce31de6f2331eb01e61e01a45ab2401c7a234ef344cf5ac9b745038ff8eb78e1"), looks := false }, kinds := [], alts := [], laidByText := true, laidKinds := [.data, .data, .pinned], laidTests := true, laidLooks := .later }
def StyleOrdersCardSaid : Prop := Claim7.holds Tryd.pinned (.plain (OpenSpec.ofChange styleOrdersSpec)) styleOrdersCard

/-- THE TIED CARD OF 'widgetrylaw17.StyleLimits'. -/
def styleLimitsCard : Claim7 := { stood := { row := styleLimitsRow, standIns := [], harness := (true, "ce31de6f2331eb01e61e01a45ab2401c7a234ef344cf5ac9b745038ff8eb78e1"), looks := false }, kinds := [], alts := [], laidByText := true, laidKinds := [.data, .data, .pinned], laidTests := true, laidLooks := .later }
def StyleLimitsCardSaid : Prop := Claim7.holds Tryd.pinned (.plain (OpenSpec.ofChange styleLimitsSpec)) styleLimitsCard

/-- THE SECOND FORM's CARD OF 'widgetrylaw17.StyleTable'. -/
def styleTableUptoCard : Claim7 := { stood := { row := styleTableUptoRow, standIns := [], harness := (true, "ce31de6f2331eb01e61e01a45ab2401c7a234ef344cf5ac9b745038ff8eb78e1"), looks := false }, kinds := [], alts := [], laidByText := true, laidKinds := [.data, .data, .pinned], laidTests := true, laidLooks := .later }
def StyleTableUptoCardSaid : Prop := Claim7.holds Tryd.pinned (.plain (OpenSpec.upto styleTableSpec)) styleTableUptoCard

/-- THE SECOND FORM's CARD OF 'widgetrylaw17.StyleSheetsRaw'. -/
def styleSheetsRawUptoCard : Claim7 := { stood := { row := styleSheetsRawUptoRow, standIns := [], harness := (true, "ce31de6f2331eb01e61e01a45ab2401c7a234ef344cf5ac9b745038ff8eb78e1"), looks := false }, kinds := [], alts := [], laidByText := true, laidKinds := [.data, .data, .pinned], laidTests := true, laidLooks := .later }
def StyleSheetsRawUptoCardSaid : Prop := Claim7.holds Tryd.pinned (.plain (OpenSpec.upto styleSheetsRawSpec)) styleSheetsRawUptoCard

/-- THE SECOND FORM's CARD OF 'widgetrylaw17.StyleSheetsSpoilt'. -/
def styleSheetsSpoiltUptoCard : Claim7 := { stood := { row := styleSheetsSpoiltUptoRow, standIns := [], harness := (true, "ce31de6f2331eb01e61e01a45ab2401c7a234ef344cf5ac9b745038ff8eb78e1"), looks := false }, kinds := [], alts := [], laidByText := true, laidKinds := [.data, .data, .pinned], laidTests := true, laidLooks := .later }
def StyleSheetsSpoiltUptoCardSaid : Prop := Claim7.holds Tryd.pinned (.plain (OpenSpec.upto styleSheetsSpoiltSpec)) styleSheetsSpoiltUptoCard

/-- THE SECOND FORM's CARD OF 'widgetrylaw17.StyleInherits'. -/
def styleInheritsUptoCard : Claim7 := { stood := { row := styleInheritsUptoRow, standIns := [], harness := (true, "ce31de6f2331eb01e61e01a45ab2401c7a234ef344cf5ac9b745038ff8eb78e1"), looks := false }, kinds := [], alts := [], laidByText := true, laidKinds := [.data, .data, .pinned], laidTests := true, laidLooks := .later }
def StyleInheritsUptoCardSaid : Prop := Claim7.holds Tryd.pinned (.plain (OpenSpec.upto styleInheritsSpec)) styleInheritsUptoCard

/-- THE SECOND FORM's CARD OF 'widgetrylaw17.StyleOrders'. -/
def styleOrdersUptoCard : Claim7 := { stood := { row := styleOrdersUptoRow, standIns := [], harness := (true, "ce31de6f2331eb01e61e01a45ab2401c7a234ef344cf5ac9b745038ff8eb78e1"), looks := false }, kinds := [], alts := [], laidByText := true, laidKinds := [.data, .data, .pinned], laidTests := true, laidLooks := .later }
def StyleOrdersUptoCardSaid : Prop := Claim7.holds Tryd.pinned (.plain (OpenSpec.upto styleOrdersSpec)) styleOrdersUptoCard

/-- THE SECOND FORM's CARD OF 'widgetrylaw17.StyleLimits'. -/
def styleLimitsUptoCard : Claim7 := { stood := { row := styleLimitsUptoRow, standIns := [], harness := (true, "ce31de6f2331eb01e61e01a45ab2401c7a234ef344cf5ac9b745038ff8eb78e1"), looks := false }, kinds := [], alts := [], laidByText := true, laidKinds := [.data, .data, .pinned], laidTests := true, laidLooks := .later }
def StyleLimitsUptoCardSaid : Prop := Claim7.holds Tryd.pinned (.plain (OpenSpec.upto styleLimitsSpec)) styleLimitsUptoCard
end Rows
end Go.Proofs.YtojkihhnioeggaaDoor
